/- The plain law of FnTwoLevel: what its Lean function answers, for all arguments. -/
import Derived.Test.YteaclldklaocmaaGreatLTwoLevelFn
import Derived.Test.YteaclldklaocmaaGreatLibI
set_option maxRecDepth 10000
set_option maxHeartbeats 1000000
set_option linter.unusedSimpArgs false
set_option linter.unusedVariables false
namespace Go.VK
theorem whX_inv {σ ρ : Type} {f : σ → Option (Ex σ ρ)} (I : σ → Prop) (Q : σ → Prop) (Qr : ρ → Prop) (m : σ → Nat)
  (h : ∀ s, I s → (∃ s', f s = some (.nx s') ∧ I s' ∧ m s' < m s) ∨ (∃ s', f s = some (.br s') ∧ Q s') ∨ ∃ r, f s = some (.rt r) ∧ Qr r) :
  ∀ (k : Nat) (s : σ), I s → m s < k → (∃ s', whX f k s = some (.inl s') ∧ Q s') ∨ ∃ r, whX f k s = some (.inr r) ∧ Qr r
 | 0, _, _, hm => absurd hm (Nat.not_lt_zero _)
 | k + 1, s, hI, hm => by
  rcases h s hI with ⟨s', h1, h2, h3⟩ | ⟨s', h1, h2⟩ | ⟨r, h1, h2⟩
  ·rcases whX_inv I Q Qr m h k s' h2 (by omega) with ⟨s'', h4, h5⟩ | ⟨r, h4, h5⟩
   ·exact .inl ⟨s'', by simp only [whX, h1, Option.bind_some]; exact h4, h5⟩
   ·exact .inr ⟨r, by simp only [whX, h1, Option.bind_some]; exact h4, h5⟩
  ·exact .inl ⟨s', by simp only [whX, h1, Option.bind_some], h2⟩
  ·exact .inr ⟨r, by simp only [whX, h1, Option.bind_some], h2⟩
/-- Two loops in step that both end by themselves. -/
theorem whX2_inv {σ ρ ρ' : Type} {f : σ → Option (Ex σ ρ)} {g : σ → Option (Ex σ ρ')} (I : σ → Prop) (Q : σ → Prop) (m : σ → Nat)
  (h : ∀ s, I s → (∃ s', f s = some (.nx s') ∧ g s = some (.nx s') ∧ I s' ∧ m s' < m s) ∨ ∃ s', f s = some (.br s') ∧ g s = some (.br s') ∧ Q s') :
  ∀ (k : Nat) (s : σ), I s → m s < k → ∃ s', whX f k s = some (.inl s') ∧ whX g k s = some (.inl s') ∧ Q s'
 | 0, _, _, hm => absurd hm (Nat.not_lt_zero _)
 | k + 1, s, hI, hm => by
  rcases h s hI with ⟨s', h1, h1', h2, h3⟩ | ⟨s', h1, h1', h2⟩
  ·obtain ⟨s'', h4, h4', h5⟩ := whX2_inv I Q m h k s' h2 (by omega)
   exact ⟨s'', by simp only [whX, h1, Option.bind_some]; exact h4, by simp only [whX, h1', Option.bind_some]; exact h4', h5⟩
  ·exact ⟨s', by simp only [whX, h1, Option.bind_some], by simp only [whX, h1', Option.bind_some], h2⟩
theorem fuel_big {n : Nat} (h : n < 18446744073709551616) : n < fuel := h

/-- A coefficient that is taken. -/
def cfOk (n : Int) : Bool := decide (-1000000000 ≤ n) && decide (n ≤ 1000000000)
def rOk (x : TRing) : Bool := cfOk x.A && cfOk x.B && cfOk x.C && cfOk x.D
def rEven (x : TRing) : Bool := (Int.tmod (IntKind.i64.wrap (x.A + x.C)) 2 == 0) && (Int.tmod (IntKind.i64.wrap (x.B + x.D)) 2 == 0)
def dOk (x : TDyadic) : Bool := rOk x.Num && (decide (0 ≤ x.Exp) && decide (x.Exp ≤ 60)) && ((x.Exp == 0) || !rEven x.Num)
theorem cfOk_iff {n : Int} : cfOk n = true ↔ -1000000000 ≤ n ∧ n ≤ 1000000000 := by simp [cfOk]
theorem rOk_iff {x : TRing} : rOk x = true ↔ ((-1000000000 ≤ x.A ∧ x.A ≤ 1000000000) ∧ (-1000000000 ≤ x.B ∧ x.B ≤ 1000000000)) ∧ ((-1000000000 ≤ x.C ∧ x.C ≤ 1000000000) ∧ (-1000000000 ≤ x.D ∧ x.D ≤ 1000000000)) := by
 simp only [rOk, Bool.and_eq_true, cfOk_iff]
 constructor
 ·rintro ⟨⟨⟨a, b⟩, c⟩, d⟩; exact ⟨⟨a, b⟩, c, d⟩
 ·rintro ⟨⟨a, b⟩, c, d⟩; exact ⟨⟨⟨a, b⟩, c⟩, d⟩
theorem spec_ring (x : TRing) : F_spec_l1Good x = some (rOk x) := by
 unfold F_spec_l1Good F_spec_l1All
 rw [chk_t (by simp)]
 rcases forX_any (f := F_spec_l1All_l1 [x.A, x.B, x.C, x.D] (-1000000000) 1000000000) (l := [x.A, x.B, x.C, x.D]) (p := fun n => !cfOk n) (q := fun _ => false) (fun i y hy => by
  have e : F_spec_l1In y (-1000000000) 1000000000 = some (cfOk y) := rfl
  unfold F_spec_l1All_l1; simp only [getI_nat, hy, Option.bind_some, e]; cases cfOk y <;> rfl) with ⟨h1, h2⟩ | ⟨h1, i, _, h2⟩
 ·rw [h2]; simp at h1; simp [orR, rOk, h1]
 ·rw [h2]; simp only [Option.bind_some, orR]; congr 1; symm
  cases h : rOk x with
  | false => rfl
  | true => simp only [rOk, Bool.and_eq_true] at h; simp [h] at h1
theorem impl_coef (n : Int) : F_impl_isCoef n = some (cfOk n) := rfl
theorem impl_ring (x : TRing) : F_impl_IsValidRing x = some (rOk x) := by
 unfold F_impl_IsValidRing rOk
 simp only [impl_coef, Option.bind_some, gb]
 cases cfOk x.A <;> cases cfOk x.B <;> cases cfOk x.C <;> cases cfOk x.D <;> rfl
theorem spec_even (x : TRing) : F_spec_l1Even x = some (rEven x) := rfl
theorem impl_even (x : TRing) : F_impl_isEven x = some (rEven x) := rfl
theorem spec_dyadic (x : TDyadic) : F_spec_l2Good x = some (dOk x) := by
 unfold F_spec_l2Good F_spec_l1In dOk
 simp only [spec_ring, spec_even, Option.bind_some, gb]
 cases rOk x.Num <;> cases decide (0 ≤ x.Exp) && decide (x.Exp ≤ 60) <;> cases x.Exp == 0 <;> cases rEven x.Num <;> rfl
theorem impl_dyadic (x : TDyadic) : F_impl_IsValidDyadic x = some (dOk x) := by
 unfold F_impl_IsValidDyadic F_impl_within dOk
 simp only [impl_ring, impl_even, Option.bind_some, gb]
 cases rOk x.Num <;> cases decide (0 ≤ x.Exp) && decide (x.Exp ≤ 60) <;> cases x.Exp == 0 <;> cases rEven x.Num <;> rfl
def rZero : TRing := TRing.mk 0 0 0 0
def dZero : TDyadic := TDyadic.mk rZero 0
theorem ring_if (out : TRing) (args : List TRing) (hl : args.length ≤ 10) : F_impl_ringIf out args = some (if args.all rOk && rOk out then (out, true) else (rZero, false)) := by
 unfold F_impl_ringIf
 rw [chk_t (by omega), chk_t (by simp; omega)]
 rcases forX_any (f := F_impl_ringIf_l1 args out) (l := args ++ [out]) (p := fun x => !rOk x) (q := fun _ => (TRing.mk 0 0 0 0, false)) (fun i y hy => by
  unfold F_impl_ringIf_l1; simp only [getI_nat, hy, Option.bind_some, impl_ring]; cases rOk y <;> rfl) with ⟨h1, h2⟩ | ⟨h1, i, _, h2⟩
 ·rw [h2]
  have : (args.all rOk && rOk out) = true := by
   simp only [List.any_append, List.any_cons, List.any_nil, Bool.or_false, Bool.or_eq_false_iff] at h1
   simp only [Bool.and_eq_true, List.all_eq_true]
   exact ⟨fun x hx => by have := List.any_eq_false.1 h1.1 x hx; simpa using this, by simpa using h1.2⟩
  rw [this]; rfl
 ·rw [h2]
  have : (args.all rOk && rOk out) = false := by
   simp only [List.any_append, List.any_cons, List.any_nil, Bool.or_false, Bool.or_eq_true] at h1
   rcases h1 with h | h
   ·obtain ⟨x, hx, hp⟩ := List.any_eq_true.1 h
    have : args.all rOk = false := by rw [List.all_eq_false]; exact ⟨x, hx, by simpa using hp⟩
    rw [this]; rfl
   ·simp at h; rw [h]; simp
  rw [this]; rfl

def rHalf (x : TRing) : TRing := TRing.mk (Int.tdiv (x.B - x.D) 2) (Int.tdiv (x.A + x.C) 2) (Int.tdiv (x.B + x.D) 2) (Int.tdiv (x.C - x.A) 2)
def rRoot (x : TRing) : TRing := TRing.mk (x.B - x.D) (x.A + x.C) (x.B + x.D) (x.C - x.A)
theorem wr {a : Int} (h : -9000000000000000000 ≤ a ∧ a ≤ 9000000000000000000) : IntKind.i64.wrap a = a := wrap_i64 ⟨by omega, by omega⟩
theorem tdiv_le' {a : Int} (h : -2000000000 ≤ a ∧ a ≤ 2000000000) : -1000000000 ≤ Int.tdiv a 2 ∧ Int.tdiv a 2 ≤ 1000000000 := by
 rcases Int.le_total 0 a with h0 | h0
 ·rw [Int.tdiv_eq_ediv_of_nonneg h0]; omega
 ·have e : a = -(-a) := by omega
  rw [e, Int.neg_tdiv, Int.tdiv_eq_ediv_of_nonneg (by omega)]; omega
theorem half_ok {x : TRing} (h : rOk x = true) : rOk (rHalf x) = true := by
 rw [rOk_iff] at h ⊢
 exact ⟨⟨tdiv_le' (by omega), tdiv_le' (by omega)⟩, tdiv_le' (by omega), tdiv_le' (by omega)⟩
theorem spec_root {x : TRing} (h : rOk x = true) : F_spec_l1Root x = some (rRoot x) := by
 rw [rOk_iff] at h
 unfold F_spec_l1Root rRoot
 rw [wr (a := x.B - x.D) (by omega), wr (a := x.A + x.C) (by omega), wr (a := x.B + x.D) (by omega), wr (a := x.C - x.A) (by omega)]
theorem spec_half {x : TRing} (h : rOk x = true) : F_spec_l1Half x = some (rHalf x) := by
 unfold F_spec_l1Half
 rw [spec_root h]
 have h' := h
 rw [rOk_iff] at h
 have t := half_ok h'
 rw [rOk_iff] at t
 simp only [Option.bind_some, rRoot]
 unfold rHalf at t ⊢
 simp only at t
 rw [wr (a := Int.tdiv (x.B - x.D) 2) (by omega), wr (a := Int.tdiv (x.A + x.C) 2) (by omega), wr (a := Int.tdiv (x.B + x.D) 2) (by omega), wr (a := Int.tdiv (x.C - x.A) 2) (by omega)]
theorem impl_half {x : TRing} (h : rOk x = true) (he : rEven x = true) : F_impl_DivRootTwo x = some (rHalf x, true) := by
 unfold F_impl_DivRootTwo
 have h' := h
 have t := half_ok h'
 have tt := t
 rw [rOk_iff] at h t
 simp only [impl_ring, impl_even, h', he, Option.bind_some, gb, Bool.not_true, Bool.not_false, cond_true, Bool.or_self, cond_false]
 rw [wr (a := x.B - x.D) (by omega), wr (a := x.A + x.C) (by omega), wr (a := x.B + x.D) (by omega), wr (a := x.C - x.A) (by omega)]
 unfold rHalf at t tt ⊢
 simp only at t
 rw [wr (a := Int.tdiv (x.B - x.D) 2) (by omega), wr (a := Int.tdiv (x.A + x.C) 2) (by omega), wr (a := Int.tdiv (x.B + x.D) 2) (by omega), wr (a := Int.tdiv (x.C - x.A) 2) (by omega)]
 rw [ring_if _ _ (by simp)]
 simp [h', tt]
/-- Both bring a number to its lowest terms, and alike. -/
theorem low_both {x : TRing} {e : Int} (hx : rOk x = true) (he : 0 ≤ e ∧ e ≤ 60) : ∃ z, F_spec_l2Low x e = some z ∧ F_impl_DyadicOf x e = some (z, true) ∧ dOk z = true := by
 obtain ⟨⟨e', A, B, C, D⟩, h1, h2, h3, h4, h5, h6⟩ := whX2_inv (f := F_spec_l2Low_l1) (g := F_impl_DyadicOf_l1) (fun s => rOk (TRing.mk s.2.1 s.2.2.1 s.2.2.2.1 s.2.2.2.2) = true ∧ 0 ≤ s.1 ∧ s.1 ≤ 60)
  (fun s => rOk (TRing.mk s.2.1 s.2.2.1 s.2.2.2.1 s.2.2.2.2) = true ∧ 0 ≤ s.1 ∧ s.1 ≤ 60 ∧ ((s.1 == 0) || !rEven (TRing.mk s.2.1 s.2.2.1 s.2.2.2.1 s.2.2.2.2)) = true) (fun s => s.1.toNat)
  (fun s ⟨hr, h0, h60⟩ => by
   obtain ⟨e, A, B, C, D⟩ := s
   simp only at hr h0 h60
   unfold F_spec_l2Low_l1 F_impl_DyadicOf_l1
   simp only [spec_even, impl_even, Option.bind_some, gb]
   by_cases hpos : 0 < e
   ·rw [decide_eq_true hpos]
    cases hev : rEven (TRing.mk A B C D) with
    | true =>
     simp only [cond_true, Bool.and_self, spec_half hr, impl_half hr hev, Option.bind_some]
     refine .inl ⟨_, rfl, rfl, ⟨half_ok hr, ?_⟩, ?_⟩
     ·show 0 ≤ IntKind.i64.wrap (e - 1) ∧ IntKind.i64.wrap (e - 1) ≤ 60
      rw [wr (by omega)]; omega
     ·show (IntKind.i64.wrap (e - 1)).toNat < e.toNat
      rw [wr (by omega)]; omega
    | false =>
     simp only [cond_true, Bool.and_false, cond_false]
     exact .inr ⟨_, rfl, rfl, hr, h0, h60, by simp [hev]⟩
   ·rw [decide_eq_false hpos]
    simp only [cond_false, Bool.false_and]
    have : e = 0 := by omega
    exact .inr ⟨_, rfl, rfl, hr, h0, h60, by simp [this]⟩)
  fuel (e, x.A, x.B, x.C, x.D) ⟨hx, he.1, he.2⟩ (fuel_big (by omega))
 refine ⟨TDyadic.mk (TRing.mk A B C D) e', ?_, ?_, ?_⟩
 ·unfold F_spec_l2Low; rw [h1]; rfl
 ·unfold F_impl_DyadicOf F_impl_within
  simp only [impl_ring, hx, Option.bind_some, gb, Bool.not_true, Bool.not_false, cond_true, Bool.false_or]
  rw [decide_eq_true he.1, decide_eq_true he.2]
  simp only [Bool.and_self, Bool.not_true, cond_false]
  rw [h2]; rfl
 ·simp only at h3 h4 h5 h6
  unfold dOk
  simp only [h3, decide_eq_true h4, decide_eq_true h5, Bool.true_and, Bool.and_self]
  exact h6

theorem d_parts {x : TDyadic} (h : dOk x = true) : rOk x.Num = true ∧ 0 ≤ x.Exp ∧ x.Exp ≤ 60 := by
 unfold dOk at h
 simp only [Bool.and_eq_true, decide_eq_true_eq] at h
 exact ⟨h.1.1, h.1.2.1, h.1.2.2⟩
theorem dZero_ok : dOk dZero = true := by decide
theorem rZero_ok : rOk rZero = true := by decide
def cB (b : Bool) : Tl2C := Tl2C.mk b
theorem spec_cring (b : Bool) (x : TRing) : F_spec_l2C_ring (cB b) x = some (if rOk x then (x, cB b) else (rZero, cB true)) := by
 unfold F_spec_l2C_ring
 rw [spec_ring]
 simp only [Option.bind_some]
 cases rOk x <;> rfl
def rMul (x y : TRing) : TRing := (F_spec_l1Mul x y).getD rZero
theorem impl_rmul {x y : TRing} (hx : rOk x = true) (hy : rOk y = true) : F_impl_MulRing x y = some (if rOk (rMul x y) then (rMul x y, true) else (rZero, false)) := by
 have e := ring_if (rMul x y) [x, y] (by simp)
 simp only [List.all_cons, List.all_nil, hx, hy, Bool.true_and] at e
 have e2 : F_impl_MulRing x y = (F_impl_ringIf (rMul x y) [x, y]).bind fun p => some (p.1, p.2) := rfl
 rw [e2, e]
 cases rOk (rMul x y) <;> rfl
theorem mul_both {x y : TDyadic} (hx : dOk x = true) (hy : dOk y = true) :
  (∃ z, dOk z = true ∧ (∀ b, F_spec_l2C_mul (cB b) x y = some (z, cB b)) ∧ F_impl_MulDyadic x y = some (z, true)) ∨
   ((∀ b, ∃ z, dOk z = true ∧ F_spec_l2C_mul (cB b) x y = some (z, cB true)) ∧ F_impl_MulDyadic x y = some (dZero, false)) := by
 obtain ⟨x1, x2, x3⟩ := d_parts hx
 obtain ⟨y1, y2, y3⟩ := d_parts hy
 have hw : IntKind.i64.wrap (x.Exp + y.Exp) = x.Exp + y.Exp := wr (by omega)
 have hi : ∀ q : TRing × Bool, F_impl_MulRing x.Num y.Num = some q → F_impl_MulDyadic x y = (bif !q.2 then some (dZero, false) else (F_impl_DyadicOf q.1 (x.Exp + y.Exp)).bind fun p => some (p.1, p.2)) := fun q hq => by
  unfold F_impl_MulDyadic
  rw [hq]
  simp only [Option.bind_some, impl_dyadic, hx, hy, gb, Bool.not_true, Bool.not_false, cond_true, Bool.false_or, hw]
  rfl
 by_cases he : x.Exp + y.Exp ≤ 60
 ·have hs : ∀ b, F_spec_l2C_mul (cB b) x y = (F_spec_l2C_ring (cB b) (rMul x.Num y.Num)).bind fun p => (F_spec_l2Low p.1 (x.Exp + y.Exp)).bind fun r => some (r, p.2) := fun b => by
   unfold F_spec_l2C_mul
   rw [hw, decide_eq_false (show ¬ (60 : Int) < x.Exp + y.Exp by omega)]
   rfl
  cases hr : rOk (rMul x.Num y.Num) with
  | true =>
   obtain ⟨z, z1, z2, z3⟩ := low_both hr (e := x.Exp + y.Exp) ⟨by omega, he⟩
   refine .inl ⟨z, z3, fun b => ?_, ?_⟩
   ·rw [hs, spec_cring, hr]; simp only [if_true, Option.bind_some, z1]
   ·rw [hi _ (impl_rmul x1 y1), hr]; simp only [if_true, Bool.not_true, cond_false, z2, Option.bind_some]
  | false =>
   refine .inr ⟨fun b => ?_, ?_⟩
   ·obtain ⟨z, z1, z2, z3⟩ := low_both rZero_ok (e := x.Exp + y.Exp) ⟨by omega, he⟩
    exact ⟨z, z3, by rw [hs, spec_cring, hr]; simp only [Bool.false_eq_true, if_false, Option.bind_some, z1]⟩
   ·rw [hi _ (impl_rmul x1 y1), hr]; rfl
 ·refine .inr ⟨fun b => ⟨dZero, dZero_ok, ?_⟩, ?_⟩
  ·unfold F_spec_l2C_mul
   rw [hw, decide_eq_true (show (60 : Int) < x.Exp + y.Exp by omega)]
   rfl
  ·rw [hi _ (impl_rmul x1 y1)]
   cases hr : rOk (rMul x.Num y.Num) with
   | false => rfl
   | true =>
    simp only [if_true, Bool.not_true, cond_false]
    unfold F_impl_DyadicOf F_impl_within
    simp only [impl_ring, hr, Option.bind_some, gb, Bool.not_true, Bool.not_false, cond_true, Bool.false_or]
    rw [decide_eq_false (show ¬ x.Exp + y.Exp ≤ 60 by omega)]
    simp only [Bool.and_false, Bool.not_false, cond_true]
    rfl

theorem impl_root {x : TRing} (h : rOk x = true) : F_impl_MulRootTwo x = some (if rOk (rRoot x) then (rRoot x, true) else (rZero, false)) := by
 unfold F_impl_MulRootTwo
 have h' := h
 rw [rOk_iff] at h
 rw [wr (a := x.B - x.D) (by omega), wr (a := x.A + x.C) (by omega), wr (a := x.B + x.D) (by omega), wr (a := x.C - x.A) (by omega)]
 have e := ring_if (rRoot x) [x] (by simp)
 simp only [List.all_cons, List.all_nil, h', Bool.true_and] at e
 show (F_impl_ringIf (rRoot x) [x]).bind _ = _
 rw [e]
 cases rOk (rRoot x) <;> rfl
def rTup (b : Bool) (x : TRing) (e : Int) : Bool × Int × Int × Int × Int × Int := (b, x.A, x.B, x.C, x.D, e)
def iTup (x : TRing) (ok : Bool) (e : Int) : Int × Int × Int × Int × Bool × Int := (x.A, x.B, x.C, x.D, ok, e)
/-- A number's numerator for a greater exponent, in the specification's loop. -/
theorem spec_raise {f : Bool × Int × Int × Int × Int × Int → Option (Ex (Bool × Int × Int × Int × Int × Int) (TDyadic × Tl2C))} {E : Int} (hE : E ≤ 60)
  (hf : ∀ b x e, rOk x = true → 0 ≤ e → e ≤ 60 → f (rTup b x e) = some (bif decide (e < E) then .nx (if rOk (rRoot x) then rTup b (rRoot x) (e + 1) else rTup true rZero (e + 1)) else .br (rTup b x e))) :
  ∀ (k : Nat) (b : Bool) (x : TRing) (e : Int), rOk x = true → 0 ≤ e → e ≤ E → (E - e).toNat < k → ∃ b' x', whX f k (rTup b x e) = some (.inl (rTup b' x' E)) ∧ rOk x' = true ∧ (b = true → b' = true)
 | 0, _, _, _, _, _, _, hk => absurd hk (Nat.not_lt_zero _)
 | k + 1, b, x, e, hx, h0, h1, hk => by
  have h := hf b x e hx h0 (by omega)
  by_cases hlt : e < E
  ·rw [decide_eq_true hlt, cond_true] at h
   cases hr : rOk (rRoot x) with
   | true =>
    rw [hr] at h; simp only [if_true] at h
    obtain ⟨b', x', e1, e2, e3⟩ := spec_raise hE hf k b (rRoot x) (e + 1) hr (by omega) (by omega) (by omega)
    exact ⟨b', x', by simp only [whX, h, Option.bind_some]; exact e1, e2, e3⟩
   | false =>
    rw [hr] at h; simp only [Bool.false_eq_true, if_false] at h
    obtain ⟨b', x', e1, e2, e3⟩ := spec_raise hE hf k true rZero (e + 1) rZero_ok (by omega) (by omega) (by omega)
    exact ⟨b', x', by simp only [whX, h, Option.bind_some]; exact e1, e2, fun _ => e3 rfl⟩
  ·rw [decide_eq_false hlt, cond_false] at h
   have : e = E := by omega
   subst this
   exact ⟨b, x, by simp only [whX, h, Option.bind_some], hx, id⟩
theorem impl_raise_step {E : Int} {x : TRing} {e : Int} (hx : rOk x = true) (h0 : 0 ≤ e) (h1 : e ≤ 60) (ok : Bool) :
  F_impl_raised_l1 E (iTup x ok e) = some (bif decide (e < E) && ok then .nx (if rOk (rRoot x) then iTup (rRoot x) true (e + 1) else iTup rZero false (e + 1)) else .br (iTup x ok e)) := by
 unfold F_impl_raised_l1 iTup
 simp only [impl_root hx]
 rw [wr (a := e + 1) (by omega)]
 cases decide (e < E) && ok <;> cases rOk (rRoot x) <;> rfl
theorem raise_both {f : Bool × Int × Int × Int × Int × Int → Option (Ex (Bool × Int × Int × Int × Int × Int) (TDyadic × Tl2C))} {E : Int} (hE : E ≤ 60)
  (hf : ∀ b x e, rOk x = true → 0 ≤ e → e ≤ 60 → f (rTup b x e) = some (bif decide (e < E) then .nx (if rOk (rRoot x) then rTup b (rRoot x) (e + 1) else rTup true rZero (e + 1)) else .br (rTup b x e))) :
  ∀ (k : Nat) (x : TRing) (e : Int), rOk x = true → 0 ≤ e → e ≤ E → (E - e).toNat < k →
   (∃ x', rOk x' = true ∧ (∀ b, whX f k (rTup b x e) = some (.inl (rTup b x' E))) ∧ whX (F_impl_raised_l1 E) k (iTup x true e) = some (.inl (iTup x' true E))) ∨
    ((∀ b, ∃ x', rOk x' = true ∧ whX f k (rTup b x e) = some (.inl (rTup true x' E))) ∧ ∃ x'' e', rOk x'' = true ∧ whX (F_impl_raised_l1 E) k (iTup x true e) = some (.inl (iTup x'' false e')))
 | 0, _, _, _, _, _, hk => absurd hk (Nat.not_lt_zero _)
 | k + 1, x, e, hx, h0, h1, hk => by
  have h := fun b => hf b x e hx h0 (by omega)
  have hg := impl_raise_step (E := E) hx h0 (by omega) true
  by_cases hlt : e < E
  ·simp only [decide_eq_true hlt, cond_true, Bool.true_and] at h hg
   cases hr : rOk (rRoot x) with
   | true =>
    simp only [hr, if_true] at h hg
    rcases raise_both hE hf k (rRoot x) (e + 1) hr (by omega) (by omega) (by omega) with ⟨x', e1, e2, e3⟩ | ⟨e1, x'', e', e2, e3⟩
    ·exact .inl ⟨x', e1, fun b => by simp only [whX, h, Option.bind_some]; exact e2 b, by simp only [whX, hg, Option.bind_some]; exact e3⟩
    ·refine .inr ⟨fun b => ?_, x'', e', e2, by simp only [whX, hg, Option.bind_some]; exact e3⟩
     obtain ⟨x', e4, e5⟩ := e1 b
     exact ⟨x', e4, by simp only [whX, h, Option.bind_some]; exact e5⟩
   | false =>
    simp only [hr, Bool.false_eq_true, if_false] at h hg
    refine .inr ⟨fun b => ?_, rZero, e + 1, rZero_ok, ?_⟩
    ·obtain ⟨b', x', e1, e2, e3⟩ := spec_raise hE hf k true rZero (e + 1) rZero_ok (by omega) (by omega) (by omega)
     have : b' = true := e3 rfl
     subst this
     exact ⟨x', e2, by simp only [whX, h, Option.bind_some]; exact e1⟩
    ·cases k with
     | zero => omega
     | succ k =>
      have hg2 := impl_raise_step (E := E) rZero_ok (show 0 ≤ e + 1 by omega) (by omega) false
      simp only [Bool.and_false, cond_false] at hg2
      simp only [whX, hg, Option.bind_some, hg2]
  ·simp only [decide_eq_false hlt, cond_false, Bool.false_and] at h hg
   have : e = E := by omega
   subst this
   exact .inl ⟨x, hx, fun b => by simp only [whX, h, Option.bind_some], by simp only [whX, hg, Option.bind_some]⟩
def rAdd (x y : TRing) : TRing := (F_spec_l1Add x y).getD rZero
theorem impl_radd {x y : TRing} (hx : rOk x = true) (hy : rOk y = true) : F_impl_AddRing x y = some (if rOk (rAdd x y) then (rAdd x y, true) else (rZero, false)) := by
 have e := ring_if (rAdd x y) [x, y] (by simp)
 simp only [List.all_cons, List.all_nil, hx, hy, Bool.true_and] at e
 have e2 : F_impl_AddRing x y = (F_impl_ringIf (rAdd x y) [x, y]).bind fun p => some (p.1, p.2) := rfl
 rw [e2, e]
 cases rOk (rAdd x y) <;> rfl
theorem add_l1 (y : TDyadic) (b : Bool) (x : TRing) (e : Int) (hx : rOk x = true) (h0 : 0 ≤ e) (h1 : e ≤ 60) :
  F_spec_l2C_add_l1 y (rTup b x e) = some (bif decide (e < y.Exp) then .nx (if rOk (rRoot x) then rTup b (rRoot x) (e + 1) else rTup true rZero (e + 1)) else .br (rTup b x e)) := by
 have hr := spec_cring b (rRoot x)
 unfold cB at hr
 unfold F_spec_l2C_add_l1 rTup
 simp only [spec_root hx, hr, Option.bind_some]
 rw [wr (a := e + 1) (by omega)]
 cases decide (e < y.Exp) <;> cases rOk (rRoot x) <;> rfl
theorem add_l2 (E : Int) (b0 : Bool) (A C D : Int) (b : Bool) (x : TRing) (e : Int) (hx : rOk x = true) (h0 : 0 ≤ e) (h1 : e ≤ 60) :
  F_spec_l2C_add_l2 E b0 A C D (rTup b x e) = some (bif decide (e < E) then .nx (if rOk (rRoot x) then rTup b (rRoot x) (e + 1) else rTup true rZero (e + 1)) else .br (rTup b x e)) := by
 have hr := spec_cring b (rRoot x)
 unfold cB at hr
 unfold F_spec_l2C_add_l2 rTup
 simp only [spec_root hx, hr, Option.bind_some]
 rw [wr (a := e + 1) (by omega)]
 cases decide (e < E) <;> cases rOk (rRoot x) <;> rfl
/-- The end of a sum in the specification. -/
def fin (b : Bool) (a c : TRing) (E : Int) : Option (TDyadic × Tl2C) :=
 (F_spec_l2C_ring (cB b) (rAdd a c)).bind fun p => (F_spec_l2Low p.1 E).bind fun r => some (r, p.2)
theorem fin_bad (a c : TRing) {E : Int} (hE : 0 ≤ E ∧ E ≤ 60) : ∃ z, dOk z = true ∧ fin true a c E = some (z, cB true) := by
 unfold fin
 rw [spec_cring]
 cases hr : rOk (rAdd a c) with
 | true =>
  obtain ⟨z, z1, _, z3⟩ := low_both hr hE
  exact ⟨z, z3, by simp only [if_true, Option.bind_some, z1]⟩
 | false =>
  obtain ⟨z, z1, _, z3⟩ := low_both rZero_ok hE
  exact ⟨z, z3, by simp only [Bool.false_eq_true, if_false, Option.bind_some, z1]⟩
theorem fin_both {a c : TRing} {E : Int} (hE : 0 ≤ E ∧ E ≤ 60) :
  (rOk (rAdd a c) = true ∧ ∃ z, dOk z = true ∧ (∀ b, fin b a c E = some (z, cB b)) ∧ F_impl_DyadicOf (rAdd a c) E = some (z, true)) ∨ (rOk (rAdd a c) = false ∧ ∀ b, ∃ z, dOk z = true ∧ fin b a c E = some (z, cB true)) := by
 cases hr : rOk (rAdd a c) with
 | true =>
  obtain ⟨z, z1, z2, z3⟩ := low_both hr hE
  exact .inl ⟨rfl, z, z3, fun b => by unfold fin; rw [spec_cring, hr]; simp only [if_true, Option.bind_some, z1], z2⟩
 | false =>
  obtain ⟨z, z1, _, z3⟩ := low_both rZero_ok hE
  exact .inr ⟨rfl, fun b => ⟨z, z3, by unfold fin; rw [spec_cring, hr]; simp only [Bool.false_eq_true, if_false, Option.bind_some, z1]⟩⟩
/-- The specification's sum: its two loops, then its end. -/
theorem spec_add_eq (b : Bool) (x y : TDyadic) {b1 b2 : Bool} {a c : TRing} {e1 e2 : Int} (h1 : whX (F_spec_l2C_add_l1 y) fuel (rTup b x.Num x.Exp) = some (.inl (rTup b1 a e1)))
  (h2 : whX (F_spec_l2C_add_l2 e1 b1 a.A a.C a.D) fuel (rTup b1 y.Num y.Exp) = some (.inl (rTup b2 c e2))) : F_spec_l2C_add (cB b) x y = fin b2 a c e1 := by
 unfold F_spec_l2C_add
 unfold rTup at h1 h2
 show (whX (F_spec_l2C_add_l1 y) fuel (b, x.Num.A, x.Num.B, x.Num.C, x.Num.D, x.Exp)).bind _ = _
 rw [h1]
 simp only [Option.bind_some, orR]
 rw [h2]
 rfl
theorem raised_of {x : TDyadic} {E : Int} {a : TRing} {ok : Bool} {e : Int} (h : whX (F_impl_raised_l1 E) fuel (iTup x.Num true x.Exp) = some (.inl (iTup a ok e))) : F_impl_raised x E = some (a, ok) := by
 unfold F_impl_raised
 unfold iTup at h
 rw [h]
 rfl
theorem comb_add {x y : TDyadic} (hx : dOk x = true) (hy : dOk y = true) {E : Int} (hE : (if x.Exp < y.Exp then y.Exp else x.Exp) = E) {a c : TRing} {oa oc : Bool} (h1 : F_impl_raised x E = some (a, oa)) (h2 : F_impl_raised y E = some (c, oc))
  (ha : rOk a = true) (hc : rOk c = true) : F_impl_AddDyadic x y = (bif oa && oc && rOk (rAdd a c) then F_impl_DyadicOf (rAdd a c) E else some (dZero, false)) := by
 unfold F_impl_AddDyadic F_impl_combined
 rw [hE]
 simp only [impl_dyadic, hx, hy, Option.bind_some, gb, Bool.not_true, Bool.not_false, cond_true, Bool.or_self, cond_false, h1, h2, impl_radd ha hc]
 cases oa <;> cases oc <;> cases hr : rOk (rAdd a c) <;> simp only [Bool.not_true, Bool.not_false, Bool.or_self, Bool.or_true, Bool.true_or, Bool.false_or, Bool.or_false, Bool.and_self, Bool.and_true, Bool.and_false, Bool.true_and, Bool.false_and, if_true, Bool.false_eq_true, if_false, Option.bind_some, cond_true, cond_false]
 all_goals first | rfl | (cases F_impl_DyadicOf (rAdd a c) E <;> rfl)
theorem add_both {x y : TDyadic} (hx : dOk x = true) (hy : dOk y = true) :
  (∃ z, dOk z = true ∧ (∀ b, F_spec_l2C_add (cB b) x y = some (z, cB b)) ∧ F_impl_AddDyadic x y = some (z, true)) ∨
   ((∀ b, ∃ z, dOk z = true ∧ F_spec_l2C_add (cB b) x y = some (z, cB true)) ∧ F_impl_AddDyadic x y = some (dZero, false)) := by
 obtain ⟨x1, x2, x3⟩ := d_parts hx
 obtain ⟨y1, y2, y3⟩ := d_parts hy
 have stay : ∀ {f : Bool × Int × Int × Int × Int × Int → Option (Ex (Bool × Int × Int × Int × Int × Int) (TDyadic × Tl2C))} {t : Bool × Int × Int × Int × Int × Int}, f t = some (.br t) → whX f fuel t = some (.inl t) := fun h => by
  rw [show fuel = (fuel - 1) + 1 from rfl]; simp only [whX, h, Option.bind_some]
 have stayI : ∀ {E : Int} {z : TDyadic}, rOk z.Num = true → 0 ≤ z.Exp → z.Exp ≤ 60 → ¬ z.Exp < E → F_impl_raised z E = some (z.Num, true) := fun {E z} h h0 h1 hn => by
  refine raised_of (e := z.Exp) ?_
  have := impl_raise_step (E := E) h h0 h1 true
  simp only [decide_eq_false hn, Bool.false_and, cond_false] at this
  rw [show fuel = (fuel - 1) + 1 from rfl]; simp only [whX, this, Option.bind_some]
 by_cases hlt : x.Exp < y.Exp
 ·have hE : (if x.Exp < y.Exp then y.Exp else x.Exp) = y.Exp := if_pos hlt
  have hst : ∀ (b : Bool) (a : TRing), whX (F_spec_l2C_add_l2 y.Exp b a.A a.C a.D) fuel (rTup b y.Num y.Exp) = some (.inl (rTup b y.Num y.Exp)) := fun b a => stay (by
   rw [add_l2 _ _ _ _ _ _ _ _ y1 y2 y3, decide_eq_false (by omega)]; rfl)
  rcases raise_both (f := F_spec_l2C_add_l1 y) (E := y.Exp) y3 (add_l1 y) fuel x.Num x.Exp x1 x2 (by omega) (fuel_big (by omega)) with ⟨a, a1, a2, a3⟩ | ⟨a1, a, e', a2, a3⟩
  ·have hc := comb_add hx hy hE (raised_of a3) (stayI y1 y2 y3 (by omega)) a1 y1
   rcases fin_both (a := a) (c := y.Num) (E := y.Exp) ⟨y2, y3⟩ with ⟨r1, z, z1, z2, z3⟩ | ⟨r1, z1⟩
   ·exact .inl ⟨z, z1, fun b => by rw [spec_add_eq b x y (a2 b) (hst b a)]; exact z2 b, by rw [hc, r1]; exact z3⟩
   ·refine .inr ⟨fun b => ?_, by rw [hc, r1]; rfl⟩
    obtain ⟨z, z2, z3⟩ := z1 b
    exact ⟨z, z2, by rw [spec_add_eq b x y (a2 b) (hst b a)]; exact z3⟩
  ·have hc := comb_add hx hy hE (raised_of a3) (stayI y1 y2 y3 (by omega)) a2 y1
   refine .inr ⟨fun b => ?_, by rw [hc]; rfl⟩
   obtain ⟨a', _, a5⟩ := a1 b
   obtain ⟨z, z2, z3⟩ := fin_bad a' y.Num (E := y.Exp) ⟨y2, y3⟩
   exact ⟨z, z2, by rw [spec_add_eq b x y a5 (hst true a')]; exact z3⟩
 ·have hE : (if x.Exp < y.Exp then y.Exp else x.Exp) = x.Exp := if_neg hlt
  have hst : ∀ (b : Bool), whX (F_spec_l2C_add_l1 y) fuel (rTup b x.Num x.Exp) = some (.inl (rTup b x.Num x.Exp)) := fun b => stay (by
   rw [add_l1 y _ _ _ x1 x2 x3, decide_eq_false (by omega)]; rfl)
  have hr := fun (b0 : Bool) => raise_both (f := F_spec_l2C_add_l2 x.Exp b0 x.Num.A x.Num.C x.Num.D) (E := x.Exp) x3 (add_l2 _ _ _ _ _) fuel y.Num y.Exp y1 y2 (by omega) (fuel_big (by omega))
  have hcm : ∀ {c : TRing} {oc : Bool}, F_impl_raised y x.Exp = some (c, oc) → rOk c = true → F_impl_AddDyadic x y = (bif true && oc && rOk (rAdd x.Num c) then F_impl_DyadicOf (rAdd x.Num c) x.Exp else some (dZero, false)) := fun h hc =>
   comb_add hx hy hE (stayI x1 x2 x3 (by omega)) h x1 hc
  rcases hr true with ⟨c, c1, c2, c3⟩ | ⟨c1, c, e', c2, c3⟩
  ·have hc := hcm (raised_of c3) c1
   have hs : ∀ b, F_spec_l2C_add (cB b) x y = fin b x.Num c x.Exp := fun b => by
    rcases hr b with ⟨c', d1, d2, d3⟩ | ⟨_, c', e', _, d3⟩
    ·rw [c3] at d3
     have : c = c' := by cases c; cases c'; simp only [iTup, Option.some.injEq, Sum.inl.injEq, Prod.mk.injEq] at d3; simp only [TRing.mk.injEq]; exact ⟨d3.1, d3.2.1, d3.2.2.1, d3.2.2.2.1⟩
     subst this
     exact spec_add_eq b x y (hst b) (d2 b)
    ·rw [c3] at d3
     simp [iTup] at d3
   rcases fin_both (a := x.Num) (c := c) (E := x.Exp) ⟨x2, x3⟩ with ⟨r1, z, z1, z2, z3⟩ | ⟨r1, z1⟩
   ·exact .inl ⟨z, z1, fun b => by rw [hs]; exact z2 b, by rw [hc, r1]; exact z3⟩
   ·refine .inr ⟨fun b => ?_, by rw [hc, r1]; rfl⟩
    obtain ⟨z, z2, z3⟩ := z1 b
    exact ⟨z, z2, by rw [hs]; exact z3⟩
  ·have hc := hcm (raised_of c3) c2
   refine .inr ⟨fun b => ?_, by rw [hc]; rfl⟩
   rcases hr b with ⟨c', d1, d2, d3⟩ | ⟨d1, _⟩
   ·rw [c3] at d3; simp [iTup] at d3
   ·obtain ⟨c', _, d5⟩ := d1 b
    obtain ⟨z, z2, z3⟩ := fin_bad x.Num c' (E := x.Exp) ⟨x2, x3⟩
    exact ⟨z, z2, by rw [spec_add_eq b x y (hst b) d5]; exact z3⟩

def DM (x y : TDyadic) : Option TDyadic := (F_impl_MulDyadic x y).bind fun p => if p.2 then some p.1 else none
def DA (x y : TDyadic) : Option TDyadic := (F_impl_AddDyadic x y).bind fun p => if p.2 then some p.1 else none
/-- An answer of the program: the number, or zero and false. -/
def dR (o : Option TDyadic) : TDyadic × Bool := match o with | some z => (z, true) | none => (dZero, false)
/-- The specification's step f, from whatever flag, ends in the number o, the flag as it was; or, if there is none, in some number and the flag set. -/
def SP {α : Type} (f : Tl2C → Option (α × Tl2C)) (G : α → Prop) (o : Option α) : Prop :=
 ∀ b, ∃ z b', f (cB b) = some (z, cB b') ∧ G z ∧ ((o = some z ∧ b' = b) ∨ (o = none ∧ b' = true))
theorem SP.bind {α β : Type} {f : Tl2C → Option (α × Tl2C)} {G : α → Prop} {o : Option α} (hf : SP f G o) {h : α → Tl2C → Option (β × Tl2C)} {G' : β → Prop} {o' : α → Option β}
  (hh : ∀ z, G z → SP (h z) G' (o' z)) : SP (fun c => (f c).bind fun p => h p.1 p.2) G' (o.bind o') := fun b => by
 obtain ⟨z, b', h1, h2, h3⟩ := hf b
 obtain ⟨z', b'', h4, h5, h6⟩ := hh z h2 b'
 refine ⟨z', b'', by simp only [h1, Option.bind_some]; exact h4, h5, ?_⟩
 rcases h3 with ⟨rfl, rfl⟩ | ⟨rfl, rfl⟩
 ·simpa using h6
 ·rcases h6 with ⟨_, h6⟩ | ⟨_, h6⟩
  ·exact .inr ⟨rfl, h6⟩
  ·exact .inr ⟨rfl, h6⟩
theorem SP.pure {α : Type} {G : α → Prop} {z : α} (h : G z) : SP (fun c => some (z, c)) G (some z) := fun b => ⟨z, b, rfl, h, .inl ⟨rfl, rfl⟩⟩
theorem SP.map {α β : Type} {f : Tl2C → Option (α × Tl2C)} {G : α → Prop} {o : Option α} (hf : SP f G o) {g : α → β} {G' : β → Prop} (hg : ∀ z, G z → G' (g z)) : SP (fun c => (f c).bind fun p => some (g p.1, p.2)) G' (o.map g) := by
 have := hf.bind (h := fun z c => some (g z, c)) (o' := fun z => some (g z)) (fun z hz => SP.pure (hg z hz))
 rwa [Option.map_eq_bind]
theorem spM {x y : TDyadic} (hx : dOk x = true) (hy : dOk y = true) : SP (fun c => F_spec_l2C_mul c x y) (fun z => dOk z = true) (DM x y) := fun b => by
 unfold DM
 rcases mul_both hx hy with ⟨z, h1, h2, h3⟩ | ⟨h1, h2⟩
 ·exact ⟨z, b, h2 b, h1, .inl ⟨by rw [h3]; rfl, rfl⟩⟩
 ·obtain ⟨z, h3, h4⟩ := h1 b
  exact ⟨z, true, h4, h3, .inr ⟨by rw [h2]; rfl, rfl⟩⟩
theorem spA {x y : TDyadic} (hx : dOk x = true) (hy : dOk y = true) : SP (fun c => F_spec_l2C_add c x y) (fun z => dOk z = true) (DA x y) := fun b => by
 unfold DA
 rcases add_both hx hy with ⟨z, h1, h2, h3⟩ | ⟨h1, h2⟩
 ·exact ⟨z, b, h2 b, h1, .inl ⟨by rw [h3]; rfl, rfl⟩⟩
 ·obtain ⟨z, h3, h4⟩ := h1 b
  exact ⟨z, true, h4, h3, .inr ⟨by rw [h2]; rfl, rfl⟩⟩
theorem imM {x y : TDyadic} (hx : dOk x = true) (hy : dOk y = true) : F_impl_MulDyadic x y = some (dR (DM x y)) := by
 unfold DM
 rcases mul_both hx hy with ⟨z, h1, h2, h3⟩ | ⟨h1, h2⟩
 ·rw [h3]; rfl
 ·rw [h2]; rfl
theorem imA {x y : TDyadic} (hx : dOk x = true) (hy : dOk y = true) : F_impl_AddDyadic x y = some (dR (DA x y)) := by
 unfold DA
 rcases add_both hx hy with ⟨z, h1, h2, h3⟩ | ⟨h1, h2⟩
 ·rw [h3]; rfl
 ·rw [h2]; rfl
theorem dm_ok {x y z : TDyadic} (hx : dOk x = true) (hy : dOk y = true) (h : DM x y = some z) : dOk z = true := by
 unfold DM at h
 rcases mul_both hx hy with ⟨z', h1, h2, h3⟩ | ⟨h1, h2⟩
 ·rw [h3] at h; simp at h; rw [← h]; exact h1
 ·rw [h2] at h; simp at h
theorem da_ok {x y z : TDyadic} (hx : dOk x = true) (hy : dOk y = true) (h : DA x y = some z) : dOk z = true := by
 unfold DA at h
 rcases add_both hx hy with ⟨z', h1, h2, h3⟩ | ⟨h1, h2⟩
 ·rw [h3] at h; simp at h; rw [← h]; exact h1
 ·rw [h2] at h; simp at h
theorem dR_ok {o : Option TDyadic} (h : ∀ z, o = some z → dOk z = true) : dOk (dR o).1 = true := by
 cases o with
 | none => exact dZero_ok
 | some z => exact h z rfl

/-- What the specification holds (z, and its flag b') beside the number o (or none): the flag before is b; once it is set, it stays. -/
def SR {α : Type} (G : α → Prop) (o : Option α) (b : Bool) (z : α) (b' : Bool) : Prop := G z ∧ (b = true → b' = true) ∧ (b = false → (o = some z ∧ b' = false) ∨ (o = none ∧ b' = true))
theorem SR.bind {α β : Type} {G : α → Prop} {G' : β → Prop} {o : Option α} {o' : α → Option β} {b b' b'' : Bool} {z : α} {z' : β} (h1 : SR G o b z b') (h2 : SR G' (o' z) b' z' b'') : SR G' (o.bind o') b z' b'' := by
 refine ⟨h2.1, fun h => h2.2.1 (h1.2.1 h), fun h => ?_⟩
 rcases h1.2.2 h with ⟨rfl, rfl⟩ | ⟨rfl, rfl⟩
 ·exact h2.2.2 rfl
 ·exact .inr ⟨rfl, h2.2.1 rfl⟩
theorem SR.bad {α : Type} {G : α → Prop} {o : Option α} {z : α} {b' : Bool} (h : SR G o true z b') : b' = true := h.2.1 rfl
theorem SR.good {α : Type} {G : α → Prop} {o : Option α} {z : α} {b' : Bool} (h : SR G o false z b') : (o = some z ∧ b' = false) ∨ (o = none ∧ b' = true) := h.2.2 rfl
theorem SR.pure {α : Type} {G : α → Prop} {z : α} {b : Bool} (h : G z) : SR G (some z) b z b := ⟨h, id, fun hb => .inl ⟨rfl, hb⟩⟩
theorem SR.mono {α : Type} {G G' : α → Prop} {o : Option α} {b b' : Bool} {z : α} (h : SR G o b z b') (hg : G z → G' z) : SR G' o b z b' := ⟨hg h.1, h.2⟩
theorem SR.map {α β : Type} {G : α → Prop} {G' : β → Prop} {o : Option α} {b b' : Bool} {z : α} (h : SR G o b z b') (g : α → β) (hg : G z → G' (g z)) : SR G' (o.map g) b (g z) b' := by
 refine ⟨hg h.1, h.2.1, fun hb => ?_⟩
 rcases h.2.2 hb with ⟨rfl, h2⟩ | ⟨rfl, h2⟩
 ·exact .inl ⟨rfl, h2⟩
 ·exact .inr ⟨rfl, h2⟩
theorem sr_of {α : Type} {f : Tl2C → Option (α × Tl2C)} {G : α → Prop} {o : Option α} (h : SP f G o) (b : Bool) : ∃ z b', f (cB b) = some (z, cB b') ∧ SR G o b z b' := by
 obtain ⟨z, b', h1, h2, h3⟩ := h b
 refine ⟨z, b', h1, h2, fun hb => ?_, fun hb => ?_⟩
 ·rcases h3 with ⟨_, h3⟩ | ⟨_, h3⟩
  ·exact h3.trans hb
  ·exact h3
 ·rcases h3 with ⟨h3, h4⟩ | ⟨h3, h4⟩
  ·exact .inl ⟨h3, h4.trans hb⟩
  ·exact .inr ⟨h3, h4⟩
theorem srM {x y : TDyadic} (hx : dOk x = true) (hy : dOk y = true) (b : Bool) : ∃ z b', F_spec_l2C_mul (cB b) x y = some (z, cB b') ∧ SR (fun z => dOk z = true) (DM x y) b z b' := sr_of (spM hx hy) b
theorem srA {x y : TDyadic} (hx : dOk x = true) (hy : dOk y = true) (b : Bool) : ∃ z b', F_spec_l2C_add (cB b) x y = some (z, cB b') ∧ SR (fun z => dOk z = true) (DA x y) b z b' := sr_of (spA hx hy) b
theorem sr_it {β τ : Type} {f : Nat → τ → Option τ} {enc : Bool → β → τ} {G : Nat → β → Prop} {st : Nat → β → Option β} {n : Nat}
  (hf : ∀ k b s, k < n → G k s → ∃ z b', f k (enc b s) = some (enc b' z) ∧ SR (G (k + 1)) (st k s) b z b') :
  ∀ (m i : Nat) (s : β) (b : Bool), i + m ≤ n → G i s → ∃ z b', forN f m i (enc b s) = some (enc b' z) ∧ SR (G (i + m)) (forN st m i s) b z b'
 | 0, i, s, b, _, hG => ⟨s, b, rfl, SR.pure hG⟩
 | m + 1, i, s, b, hm, hG => by
  obtain ⟨z, b', h1, h2⟩ := hf i b s (by omega) hG
  obtain ⟨z', b'', h3, h4⟩ := sr_it hf m (i + 1) z b' (by omega) h2.1
  rw [show i + 1 + m = i + (m + 1) by omega] at h4
  exact ⟨z', b'', by simp only [forN, h1, Option.bind_some]; exact h3, h2.bind h4⟩
/-- A loop of the specification that stops at its flag. -/
theorem sr_wh {β τ ρ : Type} {f : τ → Option (Ex τ ρ)} {enc : Bool → β → Nat → τ} {G : β → Prop} {st : Nat → β → Option β} {n : Nat}
  (hb : ∀ k s, f (enc true s k) = some (.br (enc true s k))) (hn : ∀ s, f (enc false s n) = some (.br (enc false s n)))
  (hf : ∀ k s, k < n → G s → ∃ z b', f (enc false s k) = some (.nx (enc b' z (k + 1))) ∧ SR G (st k s) false z b') :
  ∀ (q m i : Nat) (s : β) (b : Bool), i + m = n → m < q → G s → ∃ z b' k', whX f q (enc b s i) = some (.inl (enc b' z k')) ∧ SR G (forN st m i s) b z b'
 | 0, _, _, _, _, _, hq, _ => absurd hq (Nat.not_lt_zero _)
 | q + 1, m, i, s, true, _, _, hG => ⟨s, true, i, by simp only [whX, hb, Option.bind_some], hG, fun h => h, fun h => by cases h⟩
 | q + 1, 0, i, s, false, hm, _, hG => by
  have : i = n := by omega
  subst this
  exact ⟨s, false, i, by simp only [whX, hn, Option.bind_some], SR.pure hG⟩
 | q + 1, m + 1, i, s, false, hm, hq, hG => by
  obtain ⟨z, b', h1, h2⟩ := hf i s (by omega) hG
  obtain ⟨z', b'', k', h3, h4⟩ := sr_wh hb hn hf q m (i + 1) z b' (by omega) (by omega) h2.1
  exact ⟨z', b'', k', by simp only [whX, h1, Option.bind_some]; exact h3, h2.bind h4⟩
/-- What a loop that may leave the function ends in. -/
def exO {β τ ρ : Type} (enc : β → τ) (R : ρ) (o : Option β) : τ ⊕ ρ := match o with | some z => .inl (enc z) | none => .inr R
def nxO {β τ ρ : Type} (enc : β → τ) (R : ρ) (o : Option β) : Ex τ ρ := match o with | some z => .nx (enc z) | none => .rt R
theorem im_it {β τ ρ : Type} {g : Nat → τ → Option (Ex τ ρ)} {enc : β → τ} {G : Nat → β → Prop} {st : Nat → β → Option β} {R : ρ} {n : Nat}
  (hg : ∀ k s, k < n → G k s → g k (enc s) = some (nxO enc R (st k s)) ∧ ∀ z, st k s = some z → G (k + 1) z) :
  ∀ (m i : Nat) (s : β), i + m ≤ n → G i s → forX g m i (enc s) = some (exO enc R (forN st m i s)) ∧ ∀ z, forN st m i s = some z → G (i + m) z
 | 0, i, s, _, hG => ⟨rfl, fun z h => by cases h; exact hG⟩
 | m + 1, i, s, hm, hG => by
  obtain ⟨h1, h2⟩ := hg i s (by omega) hG
  cases hs : st i s with
  | none =>
   rw [hs] at h1
   refine ⟨by simp only [forX, h1, nxO, Option.bind_some, forN, hs, Option.bind_none, exO], fun z hz => ?_⟩
   simp only [forN, hs, Option.bind_none] at hz; cases hz
  | some z =>
   rw [hs] at h1
   obtain ⟨h3, h4⟩ := im_it hg m (i + 1) z (by omega) (h2 z hs)
   rw [show i + 1 + m = i + (m + 1) by omega] at h4
   exact ⟨by simp only [forX, h1, nxO, Option.bind_some, forN, hs]; exact h3, fun z' hz => h4 z' (by simpa only [forN, hs, Option.bind_some] using hz)⟩
theorem gI {l : List TDyadic} {x : Int} {n : Nat} (hx : x = (n : Int)) (hn : n < l.length) : getI l x = some (l.getD n dZero) := by
 subst hx; rw [getI_nat, List.getElem?_eq_getElem hn]; simp [hn]
theorem getD_ok {l : List TDyadic} (h : ∀ z ∈ l, dOk z = true) (n : Nat) : dOk (l.getD n dZero) = true := by
 rw [List.getD_eq_getElem?_getD]
 cases hx : l[n]? with
 | none => exact dZero_ok
 | some x => exact h x (List.mem_of_getElem? hx)
def sT (b : Bool) (s : TDyadic) : Bool × Int × Int × Int × Int × Int := (b, s.Num.A, s.Num.B, s.Num.C, s.Num.D, s.Exp)
def iT (s : TDyadic) : Int × Int × Int × Int × Int := (s.Num.A, s.Num.B, s.Num.C, s.Num.D, s.Exp)
/-- One more product onto a sum. -/
def dotS (X Y : Nat → TDyadic) (k : Nat) (s : TDyadic) : Option TDyadic := (DM (X k) (Y k)).bind fun p => DA s p
theorem dot_spec {X Y : Nat → TDyadic} (hX : ∀ k, dOk (X k) = true) (hY : ∀ k, dOk (Y k) = true) (k : Nat) (b : Bool) (s : TDyadic) (hs : dOk s = true) :
  ∃ z b', ((F_spec_l2C_mul (cB b) (X k) (Y k)).bind fun p => (F_spec_l2C_add p.2 s p.1).bind fun q => some (sT q.2.bad q.1)) = some (sT b' z) ∧ SR (fun z => dOk z = true) (dotS X Y k s) b z b' := by
 obtain ⟨z, b', h1, h2⟩ := srM (hX k) (hY k) b
 obtain ⟨z', b'', h3, h4⟩ := srA hs h2.1 b'
 exact ⟨z', b'', by simp only [h1, Option.bind_some, h3]; rfl, h2.bind h4⟩
theorem dot_impl {ρ : Type} {X Y : Nat → TDyadic} (hX : ∀ k, dOk (X k) = true) (hY : ∀ k, dOk (Y k) = true) (R : ρ) (k : Nat) (s : TDyadic) (hs : dOk s = true) :
  ((F_impl_MulDyadic (X k) (Y k)).bind fun p => (F_impl_AddDyadic s p.1).bind fun q => bif (!p.2) || (!q.2) then some (.rt R) else some (.nx (iT q.1))) = some (nxO iT R (dotS X Y k s)) ∧ ∀ z, dotS X Y k s = some z → dOk z = true := by
 unfold dotS
 rw [imM (hX k) (hY k)]
 have ho : dOk (dR (DM (X k) (Y k))).1 = true := dR_ok (fun z hz => dm_ok (hX k) (hY k) hz)
 simp only [Option.bind_some]
 rw [imA hs ho]
 simp only [Option.bind_some]
 cases hm : DM (X k) (Y k) with
 | none => exact ⟨rfl, fun z hz => by cases hz⟩
 | some p =>
  rw [hm] at ho
  simp only [dR, Option.bind_some] at ho ⊢
  cases ha : DA s p with
  | none => exact ⟨rfl, fun z hz => by cases hz⟩
  | some q => exact ⟨rfl, fun z hz => by cases hz; exact da_ok hs ho ha⟩
def okD (l : List TDyadic) : Prop := ∀ z ∈ l, dOk z = true
theorem okD_snoc {l : List TDyadic} {z : TDyadic} (hl : okD l) (hz : dOk z = true) : okD (l ++ [z]) := fun x hx => by
 rcases List.mem_append.1 hx with h | h
 ·exact hl x h
 ·simp only [List.mem_singleton] at h; subst h; exact hz
theorem dy_eq (x y : TDyadic) : (((x.Num.A == y.Num.A) && ((x.Num.B == y.Num.B) && ((x.Num.C == y.Num.C) && ((x.Num.D == y.Num.D) && true)))) && ((x.Exp == y.Exp) && true)) = decide (x = y) := by
 obtain ⟨⟨A, B, C, D⟩, e⟩ := x
 obtain ⟨⟨A', B', C', D'⟩, e'⟩ := y
 rw [Bool.eq_iff_iff]
 simp only [Bool.and_true, Bool.and_eq_true, beq_iff_eq, decide_eq_true_eq, TDyadic.mk.injEq, TRing.mk.injEq]
theorem bs {α : Type} {b : Bool} {x y : α} : (bif b then some x else some y) = some (bif b then x else y) := by cases b <;> rfl
theorem forX_same {α ρ : Type} [DecidableEq α] {f : Nat → Unit → Option (Ex Unit ρ)} {l l' : List α} {q : ρ} (hl : l.length = l'.length)
  (hf : ∀ i x y, l[i]? = some x → l'[i]? = some y → f i () = some (bif !decide (x = y) then .rt q else .nx ())) : forX f l.length 0 () = some (if l = l' then .inl () else .inr q) := by
 rcases forX_inv (f := f) (fun j _ => ∀ i, i < j → l[i]? = l'[i]?) (fun r => r = q ∧ l ≠ l') l.length 0 () (fun i hi => absurd hi (Nat.not_lt_zero _)) (fun j s _ hj hI => by
  have hj : j < l.length := by omega
  have h := hf j _ _ (List.getElem?_eq_getElem hj) (List.getElem?_eq_getElem (show j < l'.length by omega))
  by_cases he : l[j] = l'[j]'(by omega)
  ·rw [decide_eq_true he] at h
   refine .inl ⟨(), h, fun i hi => ?_⟩
   rcases Nat.lt_succ_iff_lt_or_eq.1 hi with h' | rfl
   ·exact hI i h'
   ·rw [List.getElem?_eq_getElem hj, List.getElem?_eq_getElem (show i < l'.length by omega), he]
  ·rw [decide_eq_false he] at h
   exact .inr ⟨q, h, rfl, fun e => he (by subst e; rfl)⟩) with ⟨⟨⟩, h1, h2⟩ | ⟨r, h1, rfl, h2⟩
 ·rw [h1, if_pos]
  apply List.ext_getElem?
  intro i
  by_cases hi : i < l.length
  ·exact h2 i (by omega)
  ·rw [List.getElem?_eq_none (by omega), List.getElem?_eq_none (by omega)]
 ·rw [h1, if_neg h2]
def dOne : TDyadic := TDyadic.mk (TRing.mk 1 0 0 0) 0
theorem index_eq {l : List TDyadic} {f : TDyadic → Option Bool} {p : TDyadic → Bool} (hl : l.length ≤ 9223372036854775807) (hf : ∀ x, f x = some (p x)) :
  ∃ i, F_slices_IndexFunc_impl_Dyadic_impl_Dyadic l f = some i ∧ decide (0 ≤ i) = l.any p := by
 unfold F_slices_IndexFunc_impl_Dyadic_impl_Dyadic
 rw [chk_t hl]
 rcases forX_any (f := F_slices_IndexFunc_impl_Dyadic_impl_Dyadic_l1 l f) (l := l) (p := p) (q := fun i => (i : Int)) (fun i x hx => by
  unfold F_slices_IndexFunc_impl_Dyadic_impl_Dyadic_l1
  simp only [getI_nat, hx, Option.bind_some, hf, bs]) with ⟨h1, h2⟩ | ⟨h1, i, _, h2⟩
 ·rw [h2, h1]; exact ⟨-1, rfl, by decide⟩
 ·rw [h2, h1]; exact ⟨i, rfl, by simp⟩
theorem contains_eq {l : List TDyadic} {f : TDyadic → Option Bool} {p : TDyadic → Bool} (hl : l.length ≤ 9223372036854775807) (hf : ∀ x, f x = some (p x)) :
  F_slices_ContainsFunc_impl_Dyadic_impl_Dyadic l f = some (l.any p) := by
 unfold F_slices_ContainsFunc_impl_Dyadic_impl_Dyadic
 obtain ⟨i, h1, h2⟩ := index_eq hl hf
 rw [h1]; simp only [Option.bind_some, h2]
theorem any_not_all {l : List TDyadic} {p : TDyadic → Bool} : (l.any fun x => !p x) = !l.all p := by
 induction l with
 | nil => rfl
 | cons x l ih => simp only [List.any_cons, List.all_cons, ih, Bool.not_and]

def dimB (n : Int) : Bool := [1, 2, 4, 8, 16, 32].any fun x => x == n
theorem dim_le {n : Int} (h : dimB n = true) : 1 ≤ n ∧ n ≤ 32 := by
 unfold dimB at h
 simp only [List.any_cons, List.any_nil, Bool.or_false, Bool.or_eq_true, beq_iff_eq] at h
 omega
theorem spec_dim (n : Int) : F_spec_l3Dim n = some (dimB n) := by
 unfold F_spec_l3Dim F_spec_l1Has
 rw [chk_t (by simp)]
 rcases forX_any (f := F_spec_l1Has_l1 [1, 2, 4, 8, 16, 32] n) (l := [1, 2, 4, 8, 16, 32]) (p := fun x => x == n) (q := fun _ => true) (fun i x hx => by
  unfold F_spec_l1Has_l1; simp only [getI_nat, hx, Option.bind_some, bs]) with ⟨h1, h2⟩ | ⟨h1, i, _, h2⟩
 ·rw [h2]; unfold dimB; rw [h1]; rfl
 ·rw [h2]; unfold dimB; rw [h1]; rfl
theorem dim_small : ∀ k : Fin 33, 1 ≤ k.val → (((decide ((1 : Int) ≤ (k.val : Int))) && (decide ((k.val : Int) ≤ 32))) && ((bits .and .i64 (k.val : Int) (IntKind.i64.wrap ((k.val : Int) - 1))) == 0)) = dimB (k.val : Int) := by decide +kernel
theorem impl_dim (n : Int) : F_impl_isDim n = some (dimB n) := by
 unfold F_impl_isDim F_impl_within
 simp only [Option.bind_some]
 by_cases h : 1 ≤ n ∧ n ≤ 32
 ·obtain ⟨k, rfl⟩ : ∃ k : Nat, n = k := ⟨n.toNat, by omega⟩
  exact congrArg some (dim_small ⟨k, by omega⟩ (by simp only; omega))
 ·have : dimB n = false := by
   cases hd : dimB n with
   | false => rfl
   | true => exact absurd (dim_le hd) h
  rw [this]
  by_cases h1 : 1 ≤ n
  ·rw [decide_eq_false (show ¬ n ≤ 32 by omega)]; simp
  ·rw [decide_eq_false h1]; simp
/-- A matrix that is taken. -/
def mOk (m : TMatrix) : Bool := dimB m.Rows && dimB m.Cols && ((m.Cells.length : Int) == m.Rows * m.Cols) && m.Cells.all dOk
theorem mul_le32 {a b : Int} (ha : 1 ≤ a ∧ a ≤ 32) (hb : 1 ≤ b ∧ b ≤ 32) : 0 ≤ a * b ∧ a * b ≤ 1024 := by
 refine ⟨Int.mul_nonneg (by omega) (by omega), ?_⟩
 have := Int.mul_le_mul ha.2 hb.2 (by omega) (by decide : (0 : Int) ≤ 32)
 omega
theorem spec_mgood (m : TMatrix) (hl : m.Cells.length ≤ 9223372036854775807) : F_spec_l3Good m = some (mOk m) := by
 unfold F_spec_l3Good mOk
 rw [spec_dim, spec_dim]
 cases h1 : dimB m.Rows with
 | false => rfl
 | true =>
  cases h2 : dimB m.Cols with
  | false => rfl
  | true =>
   have := mul_le32 (dim_le h1) (dim_le h2)
   simp only [Option.bind_some, gb, Bool.not_true, Bool.not_false, cond_true, Bool.or_self, Bool.false_or, Bool.and_self, Bool.true_and]
   rw [wr (a := m.Rows * m.Cols) (by omega)]
   simp only [bne]
   cases h3 : (m.Cells.length : Int) == m.Rows * m.Cols with
   | false => rfl
   | true =>
    simp only [Bool.not_true, cond_false, Bool.true_and]
    rw [chk_t hl]
    rcases forX_any (f := F_spec_l3Good_l1 m) (l := m.Cells) (p := fun x => !dOk x) (q := fun _ => false) (fun i x hx => by
     unfold F_spec_l3Good_l1; simp only [getI_nat, hx, Option.bind_some, spec_dyadic, bs]) with ⟨q1, q2⟩ | ⟨q1, i, _, q2⟩
    ·rw [q2]; rw [any_not_all] at q1; simp only [Option.bind_some, orR]; cases hh : m.Cells.all dOk
     ·rw [hh] at q1; cases q1
     ·rfl
    ·rw [q2]; rw [any_not_all] at q1; simp only [Option.bind_some, orR]; cases hh : m.Cells.all dOk
     ·rfl
     ·rw [hh] at q1; cases q1
theorem impl_mgood (m : TMatrix) (hl : m.Cells.length ≤ 9223372036854775807) : F_impl_IsValidMatrix m = some (mOk m) := by
 unfold F_impl_IsValidMatrix mOk
 rw [impl_dim, impl_dim]
 cases h1 : dimB m.Rows with
 | false => rfl
 | true =>
  cases h2 : dimB m.Cols with
  | false => rfl
  | true =>
   have := mul_le32 (dim_le h1) (dim_le h2)
   simp only [Option.bind_some, gb, cond_true, Bool.and_self, Bool.true_and]
   rw [wr (a := m.Rows * m.Cols) (by omega)]
   cases h3 : (m.Cells.length : Int) == m.Rows * m.Cols with
   | false => rfl
   | true =>
    simp only [cond_true]
    rw [contains_eq (p := fun x => !dOk x) hl (fun x => by unfold F_impl_IsValidMatrix_1; simp only [impl_dyadic, Option.bind_some]), any_not_all]
    simp only [Option.bind_some, Bool.not_not, Bool.true_and]
theorem m_parts {m : TMatrix} (h : mOk m = true) : ∃ (R C : Nat) (l : List TDyadic), m = TMatrix.mk R C l ∧ dimB R = true ∧ dimB C = true ∧ (1 ≤ R ∧ R ≤ 32) ∧ (1 ≤ C ∧ C ≤ 32) ∧ l.length = R * C ∧ okD l := by
 obtain ⟨r, c, l⟩ := m
 unfold mOk at h
 simp only [Bool.and_eq_true, beq_iff_eq] at h
 obtain ⟨⟨⟨h1, h2⟩, h3⟩, h4⟩ := h
 have d1 := dim_le h1
 have d2 := dim_le h2
 obtain ⟨R, rfl⟩ : ∃ k : Nat, r = k := ⟨r.toNat, by omega⟩
 obtain ⟨C, rfl⟩ : ∃ k : Nat, c = k := ⟨c.toNat, by omega⟩
 exact ⟨R, C, l, rfl, h1, h2, by omega, by omega, by exact_mod_cast h3, fun z hz => List.all_eq_true.1 h4 z hz⟩
theorem m_make {R C : Nat} {l : List TDyadic} (h1 : dimB R = true) (h2 : dimB C = true) (h3 : l.length = R * C) (h4 : okD l) : mOk (TMatrix.mk R C l) = true := by
 unfold mOk
 simp only [h1, h2, Bool.and_self, Bool.true_and, Bool.and_eq_true, beq_iff_eq]
 exact ⟨by rw [h3]; push_cast; rfl, List.all_eq_true.2 h4⟩
theorem ix_lt {R C i j : Nat} (hi : i < R) (hj : j < C) : i * C + j < R * C := by
 have : (i + 1) * C ≤ R * C := Nat.mul_le_mul_right _ hi
 rw [Nat.add_mul] at this; omega
theorem ix {R C i j : Nat} (hi : i < R) (hj : j < C) (hR : R ≤ 32) (hC : C ≤ 32) : IntKind.i64.wrap (IntKind.i64.wrap ((i : Int) * (C : Int)) + (j : Int)) = ((i * C + j : Nat) : Int) := by
 have h1 := ix_lt hi hj
 have h2 : R * C ≤ 32 * 32 := Nat.mul_le_mul hR hC
 have e : (i : Int) * (C : Int) = ((i * C : Nat) : Int) := by push_cast; rfl
 rw [e, wr (a := ((i * C : Nat) : Int)) (by omega), wr (by omega)]
 omega
def gridO (cell : Nat → Nat → Option TDyadic) (R C : Nat) : Option (List TDyadic) := forN (fun i l => forN (fun j l => (cell i j).bind fun z => some (l ++ [z])) C 0 l) R 0 []
def mmCell (a b : List TDyadic) (K C i j : Nat) : Option TDyadic := forN (dotS (fun k => a.getD (i * K + k) dZero) (fun k => b.getD (k * C + j) dZero)) K 0 dZero
def mmO (a b : List TDyadic) (R K C : Nat) : Option (List TDyadic) := gridO (mmCell a b K C) R C
def wT (b : Bool) (s : TDyadic) (k : Nat) : Bool × Int × Int × Int × Int × Int × Int := (b, s.Num.A, s.Num.B, s.Num.C, s.Num.D, s.Exp, (k : Int))
theorem grid_len {R C i j : Nat} (hi : i < R) (hj : j < C) (hR : R ≤ 32) (hC : C ≤ 32) : i * C + j + 1 ≤ 1024 := by
 have h1 := ix_lt hi hj
 have h2 : R * C ≤ 32 * 32 := Nat.mul_le_mul hR hC
 omega
theorem sp_times {R K C : Nat} {la lb : List TDyadic} (ha : okD la) (hb : okD lb) (na : la.length = R * K) (nb : lb.length = K * C) (hR : R ≤ 32) (hK : K ≤ 32) (hC : C ≤ 32) (c : Bool) :
  ∃ l c', F_spec_l2C_times (cB c) (TMatrix.mk R K la) (TMatrix.mk K C lb) = some (TMatrix.mk R C l, cB c') ∧ SR (fun l => okD l ∧ l.length = R * C) (mmO la lb R K C) c l c' := by
 have l3 : ∀ (i j : Nat) (Cells : List TDyadic) (bad b0 : Bool), i < R → j < C → ∃ z b' k', whX (F_spec_l2C_times_l3 (TMatrix.mk R K la) Cells i (TMatrix.mk K C lb) j bad) fuel (wT b0 dZero 0) = some (.inl (wT b' z k')) ∧ SR (fun z => dOk z = true) (mmCell la lb K C i j) b0 z b' := fun i j Cells bad b0 hi hj => by
  refine sr_wh (enc := wT) (G := fun z => dOk z = true) (n := K) (fun k s => ?_) (fun s => ?_) (fun k s hk hs => ?_) fuel K 0 dZero b0 (by omega) (fuel_big (by omega)) dZero_ok
  ·unfold F_spec_l2C_times_l3 wT
   simp only [Bool.not_true, Bool.and_false, cond_false]
  ·unfold F_spec_l2C_times_l3 wT
   simp only [Int.lt_irrefl, decide_false, Bool.false_and, cond_false]
  ·obtain ⟨z, b', h1, h2⟩ := dot_spec (X := fun k => la.getD (i * K + k) dZero) (Y := fun k => lb.getD (k * C + j) dZero) (fun _ => getD_ok ha _) (fun _ => getD_ok hb _) k false s hs
   obtain ⟨p, hp, h1⟩ := Option.bind_eq_some_iff.1 h1
   obtain ⟨q, hq, h1⟩ := Option.bind_eq_some_iff.1 h1
   refine ⟨z, b', ?_, h2⟩
   unfold F_spec_l2C_times_l3 wT
   simp only
   rw [decide_eq_true (show (k : Int) < (K : Int) by omega), ix hi hk hR hK, ix hk hj hK hC, gI (n := i * K + k) rfl (by rw [na]; exact ix_lt hi hk), gI (n := k * C + j) rfl (by rw [nb]; exact ix_lt hk hj)]
   simp only [Bool.not_false, Bool.and_self, cond_true, Option.bind_some]
   rw [show F_spec_l2C_mul (Tl2C.mk false) (la.getD (i * K + k) dZero) (lb.getD (k * C + j) dZero) = some p from hp]
   simp only [Option.bind_some]
   rw [show F_spec_l2C_add p.2 (TDyadic.mk (TRing.mk s.Num.A s.Num.B s.Num.C s.Num.D) s.Exp) p.1 = some q from hq]
   simp only [Option.bind_some]
   have := Option.some.inj h1
   simp only [sT, Prod.mk.injEq] at this
   obtain ⟨t0, t1, t2, t3, t4, t5⟩ := this
   rw [t0, t1, t2, t3, t4, t5, wr (a := (k : Int) + 1) (by omega)]
   rfl
 have l2 : ∀ (i : Nat) (Cells : List TDyadic) (bad b0 : Bool) (l : List TDyadic), i < R → okD l → l.length = i * C → ∃ z b', forN (F_spec_l2C_times_l2 (TMatrix.mk R K la) Cells i (TMatrix.mk K C lb) bad) C 0 (b0, l) = some (b', z) ∧ SR (fun z => okD z ∧ z.length = i * C + C) (forN (fun j l => (mmCell la lb K C i j).bind fun z => some (l ++ [z])) C 0 l) b0 z b' := fun i Cells bad b0 l hi hl hll => by
  have := sr_it (f := F_spec_l2C_times_l2 (TMatrix.mk R K la) Cells i (TMatrix.mk K C lb) bad) (enc := fun b (l : List TDyadic) => (b, l)) (G := fun j z => okD z ∧ z.length = i * C + j) (st := fun j l => (mmCell la lb K C i j).bind fun z => some (l ++ [z])) (n := C) (fun j b1 s hj hs => ?_) C 0 l b0 (by omega) ⟨hl, by omega⟩
  ·rw [Nat.zero_add] at this; exact this
  ·obtain ⟨z, b', k', h1, h2⟩ := l3 i j Cells bad b1 hi hj
   refine ⟨s ++ [z], b', ?_, h2.bind (SR.pure ⟨okD_snoc hs.1 h2.1, by simp; omega⟩)⟩
   unfold F_spec_l2C_times_l2
   simp only
   rw [show whX (F_spec_l2C_times_l3 (TMatrix.mk R K la) Cells i (TMatrix.mk K C lb) j bad) fuel (b1, 0, 0, 0, 0, 0, 0) = _ from h1]
   simp only [wT, Option.bind_some, orR]
   have := grid_len hi hj hR hC
   rw [chk_t (by omega)]
 obtain ⟨z, b', h1, h2⟩ := sr_it (f := F_spec_l2C_times_l1 (TMatrix.mk K C lb) (TMatrix.mk R K la)) (enc := fun b (l : List TDyadic) => (b, l)) (G := fun i z => okD z ∧ z.length = i * C) (st := fun i l => forN (fun j l => (mmCell la lb K C i j).bind fun z => some (l ++ [z])) C 0 l) (n := R) (fun i b1 s hi hs => by
  obtain ⟨z, b', h1, h2⟩ := l2 i s b1 b1 s hi hs.1 hs.2
  refine ⟨z, b', ?_, h2.mono (fun h => ⟨h.1, by rw [Nat.add_mul]; omega⟩)⟩
  unfold F_spec_l2C_times_l1
  simp only [Int.toNat_natCast]
  rw [chk_t (by omega), h1]; rfl) R 0 [] c (by omega) ⟨fun _ h => (by cases h), by simp⟩
 refine ⟨z, b', ?_, h2.mono (fun h => ⟨h.1, by simpa using h.2⟩)⟩
 unfold F_spec_l2C_times
 simp only [Int.toNat_natCast]
 rw [chk_t (by omega), show forN (F_spec_l2C_times_l1 (TMatrix.mk K C lb) (TMatrix.mk R K la)) R 0 ((cB c).bad, []) = _ from h1]
 rfl
def mR (R C : Nat) (o : Option (List TDyadic)) : TMatrix × Bool := match o with | some l => (TMatrix.mk R C l, true) | none => (TMatrix.mk 0 0 [], false)
theorem im_matrixOf {R C : Nat} {cell : Int → Int → Option (TDyadic × Bool)} {cellO : Nat → Nat → Option TDyadic} (dR' : dimB R = true) (dC : dimB C = true) (hR : R ≤ 32) (hC : C ≤ 32)
  (hcell : ∀ i j : Nat, i < R → j < C → cell i j = some (dR (cellO i j)) ∧ ∀ z, cellO i j = some z → dOk z = true) :
  F_impl_matrixOf R C cell = some (mR R C (gridO cellO R C)) ∧ ∀ l, gridO cellO R C = some l → okD l ∧ l.length = R * C := by
 have l2 : ∀ (i : Nat) (l : List TDyadic), i < R → okD l → l.length = i * C → forX (F_impl_matrixOf_l2 cell i) C 0 l = some (exO id (.rt (TMatrix.mk 0 0 [], false)) (forN (fun j l => (cellO i j).bind fun z => some (l ++ [z])) C 0 l)) ∧
   ∀ z, forN (fun j l => (cellO i j).bind fun z => some (l ++ [z])) C 0 l = some z → okD z ∧ z.length = i * C + C := fun i l hi hl hll => by
  have := im_it (g := F_impl_matrixOf_l2 cell i) (enc := id) (G := fun j z => okD z ∧ z.length = i * C + j) (st := fun j l => (cellO i j).bind fun z => some (l ++ [z])) (R := Ex.rt (TMatrix.mk 0 0 [], false)) (n := C) (fun j s hj hs => ?_) C 0 l (by omega) ⟨hl, by omega⟩
  ·rw [Nat.zero_add] at this; exact this
  ·obtain ⟨h1, h2⟩ := hcell i j hi hj
   unfold F_impl_matrixOf_l2
   simp only [id, h1, Option.bind_some]
   cases hc : cellO i j with
   | none => exact ⟨rfl, fun z hz => by cases hz⟩
   | some z =>
    simp only [dR, Bool.not_true, cond_false, Option.bind_some]
    have := grid_len hi hj hR hC
    rw [chk_t (by omega)]
    exact ⟨rfl, fun z' hz => by cases hz; exact ⟨okD_snoc hs.1 (h2 z hc), by simp; omega⟩⟩
 obtain ⟨h1, h2⟩ := im_it (g := F_impl_matrixOf_l1 C cell) (enc := id) (G := fun i z => okD z ∧ z.length = i * C) (st := fun i l => forN (fun j l => (cellO i j).bind fun z => some (l ++ [z])) C 0 l) (R := (TMatrix.mk 0 0 [], false)) (n := R) (fun i s hi hs => by
  obtain ⟨h1, h2⟩ := l2 i s hi hs.1 hs.2
  unfold F_impl_matrixOf_l1
  simp only [id, Int.toNat_natCast]
  rw [chk_t (by omega), h1]
  cases hc : forN (fun j l => (cellO i j).bind fun z => some (l ++ [z])) C 0 s with
  | none => exact ⟨rfl, fun z hz => by cases hz⟩
  | some z => exact ⟨rfl, fun z' hz => by cases hz; obtain ⟨q1, q2⟩ := h2 z hc; exact ⟨q1, by rw [Nat.add_mul]; omega⟩⟩) R 0 [] (by omega) ⟨fun _ h => (by cases h), by simp⟩
 refine ⟨?_, fun l hl => by have := h2 l hl; simpa using this⟩
 unfold F_impl_matrixOf
 rw [impl_dim, impl_dim, dR', dC]
 simp only [Option.bind_some, gb, Bool.not_true, Bool.not_false, cond_true, Bool.or_self, cond_false, Int.toNat_natCast]
 rw [chk_t (by omega), show forX (F_impl_matrixOf_l1 C cell) R 0 [] = _ from h1]
 unfold gridO
 cases forN (fun i l => forN (fun j l => (cellO i j).bind fun z => some (l ++ [z])) C 0 l) R 0 [] <;> rfl
theorem im_at {R C : Nat} {l : List TDyadic} {i j : Nat} (hi : i < R) (hj : j < C) (hR : R ≤ 32) (hC : C ≤ 32) (hl : l.length = R * C) : F_impl_Matrix_at (TMatrix.mk R C l) i j = some (l.getD (i * C + j) dZero) := by
 unfold F_impl_Matrix_at
 simp only
 rw [ix hi hj hR hC, gI (n := i * C + j) rfl (by rw [hl]; exact ix_lt hi hj)]
 rfl
theorem im_mul {R K C : Nat} {la lb : List TDyadic} (ma : mOk (TMatrix.mk R K la) = true) (mb : mOk (TMatrix.mk K C lb) = true) :
  F_impl_MulMatrix (TMatrix.mk R K la) (TMatrix.mk K C lb) = some (mR R C (mmO la lb R K C)) ∧ ∀ l, mmO la lb R K C = some l → okD l ∧ l.length = R * C := by
 obtain ⟨R', K', la', e, a1, a2, a3, a4, a5, a6⟩ := m_parts ma
 obtain ⟨h, h', rfl⟩ := TMatrix.mk.inj e
 obtain rfl : R = R' := by omega
 obtain rfl : K = K' := by omega
 obtain ⟨K', C', lb', e, b1, b2, b3, b4, b5, b6⟩ := m_parts mb
 obtain ⟨h, h', rfl⟩ := TMatrix.mk.inj e
 obtain rfl : K = K' := by omega
 obtain rfl : C = C' := by omega
 have l5 : la.length ≤ 1024 := by rw [a5]; exact Nat.mul_le_mul a3.2 a4.2
 have l6 : lb.length ≤ 1024 := by rw [b5]; exact Nat.mul_le_mul b3.2 b4.2
 have hc : ∀ i j : Nat, i < R → j < C → F_impl_MulMatrix_1 i j (TMatrix.mk R K la) (TMatrix.mk K C lb) = some (dR (mmCell la lb K C i j)) ∧ ∀ z, mmCell la lb K C i j = some z → dOk z = true := fun i j hi hj => by
  obtain ⟨h1, h2⟩ := im_it (g := F_impl_MulMatrix_1_l1 (TMatrix.mk R K la) i (TMatrix.mk K C lb) j) (enc := iT) (G := fun _ z => dOk z = true) (st := dotS (fun k => la.getD (i * K + k) dZero) (fun k => lb.getD (k * C + j) dZero)) (R := (dZero, false)) (n := K) (fun k s hk hs => by
   have := dot_impl (X := fun k => la.getD (i * K + k) dZero) (Y := fun k => lb.getD (k * C + j) dZero) (fun _ => getD_ok a6 _) (fun _ => getD_ok b6 _) (dZero, false) k s hs
   refine ⟨?_, this.2⟩
   rw [← this.1]
   unfold F_impl_MulMatrix_1_l1 iT
   simp only
   rw [im_at hi hk a3.2 a4.2 a5, im_at hk hj b3.2 b4.2 b5]
   rfl) K 0 dZero (by omega) dZero_ok
  refine ⟨?_, h2⟩
  unfold F_impl_MulMatrix_1
  simp only [Int.toNat_natCast]
  rw [chk_t (by omega), show forX (F_impl_MulMatrix_1_l1 (TMatrix.mk R K la) i (TMatrix.mk K C lb) j) K 0 (0, 0, 0, 0, 0) = _ from h1]
  unfold mmCell
  cases forN (dotS (fun k => la.getD (i * K + k) dZero) (fun k => lb.getD (k * C + j) dZero)) K 0 dZero <;> rfl
 obtain ⟨h1, h2⟩ := im_matrixOf (cell := fun x_0 x_1 => F_impl_MulMatrix_1 x_0 x_1 (TMatrix.mk R K la) (TMatrix.mk K C lb)) (cellO := mmCell la lb K C) a1 b2 a3.2 b4.2 hc
 refine ⟨?_, h2⟩
 unfold F_impl_MulMatrix
 rw [impl_mgood _ (by simp only; omega), impl_mgood _ (by simp only; omega), ma, mb]
 simp only [Option.bind_some, gb, Bool.not_true, Bool.not_false, cond_true, Bool.or_self, Bool.false_or, bne_self_eq_false, cond_false]
 rw [h1]; rfl

def dConj (x : TDyadic) : TDyadic := TDyadic.mk (TRing.mk x.Num.A (-x.Num.D) (-x.Num.C) (-x.Num.B)) x.Exp
theorem tm2 (a : Int) : (Int.tmod a 2 == 0) = decide ((2 : Int) ∣ a) := by
 rw [Bool.eq_iff_iff, beq_iff_eq, decide_eq_true_eq, Int.dvd_iff_tmod_eq_zero]
theorem conj_ok {x : TDyadic} (h : dOk x = true) : dOk (dConj x) = true := by
 have hr := (d_parts h).1
 have hr2 := hr
 rw [rOk_iff] at hr
 unfold dOk at h ⊢
 have e1 : rOk (dConj x).Num = true := by rw [rOk_iff]; unfold dConj; simp only; omega
 have e2 : rEven (dConj x).Num = rEven x.Num := by
  unfold rEven dConj
  simp only
  rw [wr (a := x.Num.A + -x.Num.C) (by omega), wr (a := -x.Num.D + -x.Num.B) (by omega), wr (a := x.Num.A + x.Num.C) (by omega), wr (a := x.Num.B + x.Num.D) (by omega), tm2, tm2, tm2, tm2]
  congr 1 <;> (rw [Bool.eq_iff_iff, decide_eq_true_eq, decide_eq_true_eq]; omega)
 rw [e1, e2]
 rw [hr2] at h
 exact h
theorem impl_conj {x : TDyadic} (h : dOk x = true) : F_impl_ConjDyadic x = some (dConj x, true) := by
 have h1 := (d_parts h).1
 have h2 := (d_parts (conj_ok h)).1
 have hr := h1
 rw [rOk_iff] at hr
 unfold F_impl_ConjDyadic F_impl_Conjugate
 rw [impl_dyadic, h, wr (a := -x.Num.D) (by omega), wr (a := -x.Num.C) (by omega), wr (a := -x.Num.B) (by omega), ring_if _ _ (by simp)]
 unfold dConj at h2
 simp only at h2
 simp only [List.all_cons, List.all_nil, h1, h2, Bool.and_self, if_true, Option.bind_some, Bool.not_true, cond_false]
 rfl
/-- A row of cells that are all there. -/
theorem grid_pure {f : Nat → Nat → TDyadic} (R C : Nat) (hf : ∀ i j, i < R → j < C → dOk (f i j) = true) : ∃ l, gridO (fun i j => some (f i j)) R C = some l ∧ okD l ∧ l.length = R * C := by
 obtain ⟨l, h1, h2, h3⟩ := forN_inv (f := fun i l => forN (fun j l => (some (f i j)).bind fun z => some (l ++ [z])) C 0 l) (fun i z => okD z ∧ z.length = i * C) R 0 [] ⟨fun _ h => (by cases h), by simp⟩ (fun i s _ hi hs => by
  obtain ⟨l, h1, h2, h3⟩ := forN_inv (f := fun j l => (some (f i j)).bind fun z => some (l ++ [z])) (fun j z => okD z ∧ z.length = i * C + j) C 0 s ⟨hs.1, by rw [hs.2]; rfl⟩ (fun j s _ hj hs => ⟨_, rfl, okD_snoc hs.1 (hf i j (by omega) (by omega)), by simp [hs.2]; omega⟩)
  exact ⟨l, h1, h2, by rw [h3, Nat.add_mul]; omega⟩)
 exact ⟨l, h1, h2, by simpa using h3⟩
def unitL (n : Nat) : List TDyadic := (List.range (n * n)).map fun p => if p / n = p % n then dOne else dZero
theorem unit_spec : ∀ n ∈ [1, 2, 4, 8, 16, 32], F_spec_l3Unit ((n : Nat) : Int) = some (TMatrix.mk (n : Nat) (n : Nat) (unitL n)) := by decide +kernel
theorem unit_impl : ∀ n ∈ [1, 2, 4, 8, 16, 32], F_impl_IdentityMatrix ((n : Nat) : Int) = some (TMatrix.mk (n : Nat) (n : Nat) (unitL n), true) := by decide +kernel
theorem dim_mem {n : Nat} (h : dimB (n : Int) = true) : n ∈ [1, 2, 4, 8, 16, 32] := by
 unfold dimB at h
 simp only [List.any_cons, List.any_nil, Bool.or_false, Bool.or_eq_true, beq_iff_eq] at h
 simp only [List.mem_cons, List.not_mem_nil, or_false]
 omega
theorem unit_len (n : Nat) : (unitL n).length = n * n := by simp [unitL]
theorem unit_ok (n : Nat) : okD (unitL n) := fun z hz => by
 simp only [unitL, List.mem_map] at hz
 obtain ⟨p, _, rfl⟩ := hz
 split
 ·decide
 ·decide
def rIt : Nat → TRing → TRing
 | 0, x => x
 | k + 1, x => rIt k (rRoot x)
def rPlus (x y : TRing) : TRing := TRing.mk (x.A + y.A) (x.B + y.B) (x.C + y.C) (x.D + y.D)
theorem root_plus (x y : TRing) : rRoot (rPlus x y) = rPlus (rRoot x) (rRoot y) := by
 unfold rRoot rPlus
 simp only [TRing.mk.injEq]
 omega
theorem rIt_plus : ∀ (k : Nat) (x y : TRing), rIt k (rPlus x y) = rPlus (rIt k x) (rIt k y)
 | 0, _, _ => rfl
 | k + 1, x, y => by
  show rIt k (rRoot (rPlus x y)) = _
  rw [root_plus, rIt_plus k]; rfl
theorem rIt_add (m : Nat) : ∀ (n : Nat) (x : TRing), rIt (m + n) x = rIt m (rIt n x)
 | 0, _ => rfl
 | n + 1, x => rIt_add m n (rRoot x)
theorem root_half {x : TRing} (h : rOk x = true) (he : rEven x = true) : rRoot (rHalf x) = x := by
 rw [rOk_iff] at h
 unfold rEven at he
 rw [wr (by omega), wr (by omega), Bool.and_eq_true, beq_iff_eq, beq_iff_eq] at he
 obtain ⟨m, hm⟩ := Int.dvd_of_tmod_eq_zero he.1
 obtain ⟨n, hn⟩ := Int.dvd_of_tmod_eq_zero he.2
 have t : ∀ {a b : Int}, a = 2 * b → Int.tdiv a 2 = b := fun h => by rw [h]; exact Int.mul_tdiv_cancel_left _ (by decide)
 unfold rHalf rRoot
 rw [t (show x.B - x.D = 2 * (n - x.D) by omega), t hm, t hn, t (show x.C - x.A = 2 * (m - x.A) by omega)]
 obtain ⟨A, B, C, D⟩ := x
 simp only [TRing.mk.injEq] at *
 omega
theorem low_val {x : TRing} {e : Int} (hx : rOk x = true) (he : 0 ≤ e ∧ e ≤ 60) {z : TDyadic} {ok : Bool} (h : F_impl_DyadicOf x e = some (z, ok)) : 0 ≤ z.Exp ∧ z.Exp ≤ e ∧ rIt (e - z.Exp).toNat z.Num = x := by
 obtain ⟨⟨e', A, B, C, D⟩, h1, h2, h3, h4, h5, h6⟩ := whX2_inv (f := F_impl_DyadicOf_l1) (g := F_impl_DyadicOf_l1) (fun s => rOk (TRing.mk s.2.1 s.2.2.1 s.2.2.2.1 s.2.2.2.2) = true ∧ 0 ≤ s.1 ∧ s.1 ≤ e ∧ rIt (e - s.1).toNat (TRing.mk s.2.1 s.2.2.1 s.2.2.2.1 s.2.2.2.2) = x)
  (fun s => rOk (TRing.mk s.2.1 s.2.2.1 s.2.2.2.1 s.2.2.2.2) = true ∧ 0 ≤ s.1 ∧ s.1 ≤ e ∧ rIt (e - s.1).toNat (TRing.mk s.2.1 s.2.2.1 s.2.2.2.1 s.2.2.2.2) = x) (fun s => s.1.toNat)
  (fun s ⟨hr, h0, h60, hv⟩ => by
   obtain ⟨e1, A, B, C, D⟩ := s
   simp only at hr h0 h60 hv
   unfold F_impl_DyadicOf_l1
   simp only [impl_even, Option.bind_some, gb]
   by_cases hpos : 0 < e1
   ·rw [decide_eq_true hpos]
    cases hev : rEven (TRing.mk A B C D) with
    | true =>
     simp only [cond_true, Bool.and_self, impl_half hr hev, Option.bind_some]
     refine .inl ⟨_, rfl, rfl, ⟨half_ok hr, ?_⟩, ?_⟩
     ·show 0 ≤ IntKind.i64.wrap (e1 - 1) ∧ IntKind.i64.wrap (e1 - 1) ≤ e ∧ rIt (e - IntKind.i64.wrap (e1 - 1)).toNat (rHalf (TRing.mk A B C D)) = x
      rw [wr (by omega)]
      refine ⟨by omega, by omega, ?_⟩
      rw [show (e - (e1 - 1)).toNat = (e - e1).toNat + 1 by omega]
      show rIt (e - e1).toNat (rRoot (rHalf (TRing.mk A B C D))) = x
      rw [root_half hr hev]; exact hv
     ·show (IntKind.i64.wrap (e1 - 1)).toNat < e1.toNat
      rw [wr (by omega)]; omega
    | false =>
     simp only [cond_true, Bool.and_false, cond_false]
     exact .inr ⟨_, rfl, rfl, hr, h0, h60, hv⟩
   ·rw [decide_eq_false hpos]
    simp only [cond_false, Bool.false_and]
    exact .inr ⟨_, rfl, rfl, hr, h0, h60, hv⟩)
  fuel (e, x.A, x.B, x.C, x.D) ⟨hx, he.1, Int.le_refl e, by simp only [Int.sub_self]; rfl⟩ (fuel_big (by simp only; omega))
 unfold F_impl_DyadicOf F_impl_within at h
 simp only [impl_ring, hx, Option.bind_some, gb, Bool.not_true, Bool.not_false, cond_true, Bool.false_or] at h
 rw [decide_eq_true he.1, decide_eq_true he.2] at h
 simp only [Bool.and_self, Bool.not_true, cond_false] at h
 rw [h1] at h
 simp only [Option.bind_some, orR, Option.some.injEq, Prod.mk.injEq] at h
 obtain ⟨rfl, _⟩ := h
 exact ⟨h4, h5, h6⟩
theorem raise_loop {E : Int} (hE : E ≤ 60) : ∀ (k : Nat) (x : TRing) (e : Int), rOk x = true → 0 ≤ e → e ≤ E → (E - e).toNat < k →
  ∃ a oa e', whX (F_impl_raised_l1 E) k (iTup x true e) = some (.inl (iTup a oa e')) ∧ rOk a = true ∧ (oa = true → a = rIt (E - e).toNat x) ∧ ((∀ j, j ≤ (E - e).toNat → rOk (rIt j x) = true) → oa = true)
 | 0, _, _, _, _, _, hk => absurd hk (Nat.not_lt_zero _)
 | k + 1, x, e, hx, h0, h1, hk => by
  have hg := impl_raise_step (E := E) hx h0 (by omega) true
  by_cases hlt : e < E
  ·have hn : (E - e).toNat = (E - (e + 1)).toNat + 1 := by omega
   simp only [decide_eq_true hlt, cond_true, Bool.true_and] at hg
   cases hr : rOk (rRoot x) with
   | true =>
    simp only [hr, if_true] at hg
    obtain ⟨a, oa, e', e1, e2, e3, e4⟩ := raise_loop hE k (rRoot x) (e + 1) hr (by omega) (by omega) (by omega)
    refine ⟨a, oa, e', by simp only [whX, hg, Option.bind_some]; exact e1, e2, fun h => by rw [hn]; exact e3 h, fun h => e4 (fun j hj => ?_)⟩
    have := h (j + 1) (by omega)
    exact this
   | false =>
    simp only [hr, Bool.false_eq_true, if_false] at hg
    refine ⟨rZero, false, e + 1, ?_, rZero_ok, (fun h => nomatch h), fun h => ?_⟩
    ·cases k with
     | zero => omega
     | succ k =>
      have hg2 := impl_raise_step (E := E) rZero_ok (show 0 ≤ e + 1 by omega) (by omega) false
      simp only [Bool.and_false, cond_false] at hg2
      simp only [whX, hg, Option.bind_some, hg2]
    ·have := h 1 (by omega)
     have h2 : rOk (rRoot x) = true := this
     exact absurd (hr.symm.trans h2) (by decide)
  ·simp only [decide_eq_false hlt, cond_false, Bool.false_and] at hg
   have : e = E := by omega
   subst this
   exact ⟨x, true, e, by simp only [whX, hg, Option.bind_some], hx, fun _ => by simp only [Int.sub_self]; rfl, fun _ => rfl⟩
theorem raised_some {x : TDyadic} (hx : dOk x = true) {E : Int} (h1 : x.Exp ≤ E) (h2 : E ≤ 60) : ∃ a oa, F_impl_raised x E = some (a, oa) ∧ rOk a = true ∧ (oa = true → a = rIt (E - x.Exp).toNat x.Num) ∧ ((∀ j, j ≤ (E - x.Exp).toNat → rOk (rIt j x.Num) = true) → oa = true) := by
 obtain ⟨x1, x2, x3⟩ := d_parts hx
 obtain ⟨a, oa, e', e1, e2, e3, e4⟩ := raise_loop h2 fuel x.Num x.Exp x1 x2 h1 (fuel_big (by omega))
 exact ⟨a, oa, raised_of e1, e2, e3, e4⟩
def vOf (x : TDyadic) : TRing := rIt (60 - x.Exp).toNat x.Num
theorem da_val {x y z : TDyadic} (hx : dOk x = true) (hy : dOk y = true) (h : DA x y = some z) : vOf z = rPlus (vOf x) (vOf y) := by
 obtain ⟨x1, x2, x3⟩ := d_parts hx
 obtain ⟨y1, y2, y3⟩ := d_parts hy
 generalize hE : (if x.Exp < y.Exp then y.Exp else x.Exp) = E
 have b1 : x.Exp ≤ E := by rw [← hE]; split <;> omega
 have b2 : y.Exp ≤ E := by rw [← hE]; split <;> omega
 have b3 : E ≤ 60 := by rw [← hE]; split <;> omega
 obtain ⟨a, oa, a1, a2, a3, _⟩ := raised_some hx b1 b3
 obtain ⟨c, oc, c1, c2, c3, _⟩ := raised_some hy b2 b3
 have hc := comb_add hx hy hE a1 c1 a2 c2
 unfold DA at h
 rw [hc] at h
 cases hcond : oa && oc && rOk (rAdd a c) with
 | false => rw [hcond] at h; simp at h
 | true =>
  rw [hcond] at h
  simp only [Bool.and_eq_true] at hcond
  obtain ⟨⟨rfl, rfl⟩, hr⟩ := hcond
  simp only [cond_true] at h
  obtain ⟨p, hp, hq⟩ := Option.bind_eq_some_iff.1 h
  obtain ⟨z', ok⟩ := p
  cases ok with
  | false => simp at hq
  | true =>
   simp only [if_true, Option.some.injEq] at hq
   subst hq
   obtain ⟨l1, l2, l3⟩ := low_val hr (e := E) ⟨by omega, b3⟩ hp
   have hadd : rAdd a c = rPlus a c := by
    rw [rOk_iff] at a2 c2
    show TRing.mk (IntKind.i64.wrap (a.A + c.A)) (IntKind.i64.wrap (a.B + c.B)) (IntKind.i64.wrap (a.C + c.C)) (IntKind.i64.wrap (a.D + c.D)) = _
    rw [wr (a := a.A + c.A) (by omega), wr (a := a.B + c.B) (by omega), wr (a := a.C + c.C) (by omega), wr (a := a.D + c.D) (by omega)]
    rfl
   unfold vOf
   rw [show (60 - z'.Exp).toNat = (60 - E).toNat + (E - z'.Exp).toNat by omega, rIt_add, l3, hadd, rIt_plus, a3 rfl, c3 rfl, ← rIt_add, ← rIt_add,
    show (60 - E).toNat + (E - x.Exp).toNat = (60 - x.Exp).toNat by omega, show (60 - E).toNat + (E - y.Exp).toNat = (60 - y.Exp).toNat by omega]
theorem dm_val {x y z : TDyadic} (hx : dOk x = true) (hy : dOk y = true) (h : DM x y = some z) : x.Exp + y.Exp ≤ 60 ∧ vOf z = rIt (60 - (x.Exp + y.Exp)).toNat (rMul x.Num y.Num) := by
 obtain ⟨x1, x2, x3⟩ := d_parts hx
 obtain ⟨y1, y2, y3⟩ := d_parts hy
 have hw : IntKind.i64.wrap (x.Exp + y.Exp) = x.Exp + y.Exp := wr (by omega)
 have hi : ∀ q : TRing × Bool, F_impl_MulRing x.Num y.Num = some q → F_impl_MulDyadic x y = (bif !q.2 then some (dZero, false) else (F_impl_DyadicOf q.1 (x.Exp + y.Exp)).bind fun p => some (p.1, p.2)) := fun q hq => by
  unfold F_impl_MulDyadic
  rw [hq]
  simp only [Option.bind_some, impl_dyadic, hx, hy, gb, Bool.not_true, Bool.not_false, cond_true, Bool.false_or, hw]
  rfl
 unfold DM at h
 rw [hi _ (impl_rmul x1 y1)] at h
 cases hr : rOk (rMul x.Num y.Num) with
 | false => rw [hr] at h; simp at h
 | true =>
  rw [hr] at h
  simp only [if_true, Bool.not_true, cond_false] at h
  by_cases he : x.Exp + y.Exp ≤ 60
  ·refine ⟨he, ?_⟩
   obtain ⟨p, hp, hq⟩ := Option.bind_eq_some_iff.1 h
   obtain ⟨p', hp', hp2⟩ := Option.bind_eq_some_iff.1 hp
   obtain ⟨z', ok⟩ := p'
   cases hp2
   cases ok with
   | false => simp at hq
   | true =>
    simp only [if_true, Option.some.injEq] at hq
    subst hq
    obtain ⟨l1, l2, l3⟩ := low_val hr (e := x.Exp + y.Exp) ⟨by omega, he⟩ hp'
    unfold vOf
    rw [show (60 - z'.Exp).toNat = (60 - (x.Exp + y.Exp)).toNat + (x.Exp + y.Exp - z'.Exp).toNat by omega, rIt_add, l3]
  ·unfold F_impl_DyadicOf F_impl_within at h
   simp only [impl_ring, hr, Option.bind_some, gb, Bool.not_true, Bool.not_false, cond_true, Bool.false_or] at h
   rw [decide_eq_false he] at h
   simp at h
theorem sq_le {a N M : Int} (hM : 0 ≤ M) (h : a * a ≤ N) (hN : N < M * M) : -M ≤ a ∧ a ≤ M := by
 constructor
 ·rcases Int.lt_or_le a (-M) with h1 | h1
  ·have := Int.mul_le_mul (a := M) (b := M) (c := -a) (d := -a) (by omega) (by omega) hM (by omega)
   rw [Int.neg_mul_neg] at this
   omega
  ·exact h1
 ·rcases Int.lt_or_le M a with h1 | h1
  ·have := Int.mul_le_mul (a := M) (b := M) (c := a) (d := a) (by omega) (by omega) hM (by omega)
   omega
  ·exact h1
theorem sq_nonneg (a : Int) : 0 ≤ a * a := by
 rcases Int.le_total 0 a with h | h
 ·exact Int.mul_nonneg h h
 ·have := Int.mul_nonneg (show 0 ≤ -a by omega) (show 0 ≤ -a by omega)
  rwa [Int.neg_mul_neg] at this
/-- What a sum is, taken by eight. -/
def m8 (x : Int) : Int := Int.tmod (IntKind.i64.wrap ((Int.tmod x 8) + 8)) 8
/-- The two tables of sums say the same: B as it runs, S taken by eight, with a bound. -/
def Same (N : Nat) (z : Int) (B S : List Int) : Prop :=
 B.length = N ∧ S.length = 32 ∧ N ≤ 32 ∧ (∀ (j : Nat) (x : Int), B[j]? = some x → -z ≤ x ∧ x ≤ z ∧ S[j]? = some (x % 8)) ∧ ∀ j, N ≤ j → j < 32 → S[j]? = some 0
theorem Same.mono {N : Nat} {z z' : Int} {B S : List Int} (h : Same N z B S) (hz : z ≤ z') : Same N z' B S :=
 ⟨h.1, h.2.1, h.2.2.1, fun j x hx => ⟨by have := (h.2.2.2.1 j x hx).1; omega, Int.le_trans (h.2.2.2.1 j x hx).2.1 hz, (h.2.2.2.1 j x hx).2.2⟩, h.2.2.2.2⟩
/-- The rows of a map over n wires, each a number below N. -/
def RowsOk (n N : Nat) (R : List Int) : Prop := R.length = n ∧ ∀ x ∈ R, 0 ≤ x ∧ x < N
theorem RowsOk.set {n N : Nat} {R : List Int} (h : RowsOk n N R) (i : Nat) {x : Nat} (hx : x < N) : RowsOk n N (R.set i (x : Int)) :=
 ⟨by rw [List.length_set]; exact h.1, fun y hy => by
  rcases List.mem_or_eq_of_mem_set hy with hy | rfl
  ·exact h.2 y hy
  ·omega⟩
theorem fuelB {n : Nat} (h : n < 18446744073709551616) : n < fuel := h
/-- Small numbers as words. -/
def cI (l : List Nat) : List Int := l.map fun (x : Nat) => (x : Int)
theorem wrapU {a : Nat} (h : a < 18446744073709551616) : IntKind.u64.wrap (a : Int) = (a : Int) := by
 simp [IntKind.wrap, IntKind.signed, IntKind.bits]
 omega
theorem shr_u (x k : Nat) (hk : k ≤ 64) : shrK .u64 (x : Int) (k : Int) = ((x / 2 ^ k : Nat) : Int) := by
 unfold shrK
 rw [Int.toNat_natCast, Nat.min_eq_left (show k ≤ IntKind.bits .u64 from hk), Int.ofNat_fdiv]
 simp
theorem and_u {a b : Nat} (ha : a < 18446744073709551616) (hb : b < 18446744073709551616) : bits .and .u64 (a : Int) (b : Int) = ((a &&& b : Nat) : Int) := by
 have h1 : a &&& b ≤ a := Nat.and_le_left
 show IntKind.u64.wrap ((BitVec.ofInt 64 (a : Int) &&& BitVec.ofInt 64 (b : Int)).toNat : Int) = _
 have e1 : BitVec.ofInt 64 (a : Int) = BitVec.ofNat 64 a := rfl
 have e2 : BitVec.ofInt 64 (b : Int) = BitVec.ofNat 64 b := rfl
 rw [e1, e2, BitVec.toNat_and, BitVec.toNat_ofNat, BitVec.toNat_ofNat, Nat.mod_eq_of_lt (by omega), Nat.mod_eq_of_lt (by omega)]
 exact wrapU (by omega)
def val : List Nat → Nat
 | [] => 0
 | d :: t => d + 16 * val t
def a4 (d : Nat) : Nat := (d / 2 &&& 5) + (d &&& 5)
def b4 (d : Nat) : Nat := (d / 4 &&& 3) + (d &&& 3)
def c4 (d : Nat) : Nat := b4 (a4 d)
def NOk (n : Nat) (l : List Nat) : Prop := l.length = n ∧ ∀ x ∈ l, x < 2 ^ n
def GsOk (n : Nat) (out : List TGate) : Prop := ∀ g ∈ out, ∃ a b : Nat, a < n ∧ b < n ∧ g = TGate.mk 9 (a : Int) (b : Int)
def EOk (n b : Nat) (s : List Int × List TGate) : Prop := ∃ l, s.1 = cI l ∧ NOk n l ∧ GsOk n s.2 ∧ s.2.length ≤ b
theorem EOk.mono {n b b' : Nat} {s : List Int × List TGate} (h : EOk n b s) (hb : b ≤ b') : EOk n b' s := by
 obtain ⟨l, h1, h2, h3, h4⟩ := h
 exact ⟨l, h1, h2, h3, by omega⟩
def eMul (x y : TRing) : TRing := TRing.mk (x.A * y.A - x.B * y.D - x.C * y.C - x.D * y.B) (x.A * y.B + x.B * y.A - x.C * y.D - x.D * y.C) (x.A * y.C + x.B * y.B + x.C * y.A - x.D * y.D) (x.A * y.D + x.B * y.C + x.C * y.B + x.D * y.A)
theorem prod_bnd {a b : Int} (h1 : -1000000000 ≤ a ∧ a ≤ 1000000000) (h3 : -1000000000 ≤ b ∧ b ≤ 1000000000) : -1000000000000000000 ≤ a * b ∧ a * b ≤ 1000000000000000000 := by
 have e2 := Int.mul_nonneg (show 0 ≤ a + 1000000000 by omega) (show 0 ≤ b + 1000000000 by omega)
 have e3 := Int.mul_nonneg (show 0 ≤ a + 1000000000 by omega) (show 0 ≤ 1000000000 - b by omega)
 have e4 := Int.mul_nonneg (show 0 ≤ 1000000000 - a by omega) (show 0 ≤ b + 1000000000 by omega)
 have e5 := Int.mul_nonneg (show 0 ≤ 1000000000 - a by omega) (show 0 ≤ 1000000000 - b by omega)
 simp only [Int.add_mul, Int.mul_add, Int.sub_mul, Int.mul_sub] at e2 e3 e4 e5
 omega
theorem mul_exact {x y : TRing} (hx : rOk x = true) (hy : rOk y = true) : rMul x y = eMul x y := by
 rw [rOk_iff] at hx hy
 obtain ⟨⟨a, b⟩, c, d⟩ := hx
 obtain ⟨⟨a', b'⟩, c', d'⟩ := hy
 have p1 := prod_bnd a a'; have p2 := prod_bnd a b'; have p3 := prod_bnd a c'; have p4 := prod_bnd a d'
 have q1 := prod_bnd b a'; have q2 := prod_bnd b b'; have q3 := prod_bnd b c'; have q4 := prod_bnd b d'
 have r1 := prod_bnd c a'; have r2 := prod_bnd c b'; have r3 := prod_bnd c c'; have r4 := prod_bnd c d'
 have s1 := prod_bnd d a'; have s2 := prod_bnd d b'; have s3 := prod_bnd d c'; have s4 := prod_bnd d d'
 clear a b c d a' b' c' d'
 unfold eMul
 show TRing.mk _ _ _ _ = _
 generalize x.A * y.A = P1 at *; generalize x.A * y.B = P2 at *; generalize x.A * y.C = P3 at *; generalize x.A * y.D = P4 at *
 generalize x.B * y.A = Q1 at *; generalize x.B * y.B = Q2 at *; generalize x.B * y.C = Q3 at *; generalize x.B * y.D = Q4 at *
 generalize x.C * y.A = R1 at *; generalize x.C * y.B = R2 at *; generalize x.C * y.C = R3 at *; generalize x.C * y.D = R4 at *
 generalize x.D * y.A = S1 at *; generalize x.D * y.B = S2 at *; generalize x.D * y.C = S3 at *; generalize x.D * y.D = S4 at *
 simp (disch := omega) only [wr]
theorem eMul_comm (x y : TRing) : eMul x y = eMul y x := by
 unfold eMul
 simp only [TRing.mk.injEq]
 refine ⟨?_, ?_, ?_, ?_⟩ <;> grind
theorem eMul_zero (x : TRing) : eMul x rZero = rZero := by simp [eMul, rZero]
theorem plus_comm (x y : TRing) : rPlus x y = rPlus y x := by
 unfold rPlus
 simp only [TRing.mk.injEq]; omega
theorem plus_zero (x : TRing) : rPlus x rZero = x := by simp [rPlus, rZero]
theorem zero_plus (x : TRing) : rPlus rZero x = x := by simp [rPlus, rZero]
theorem root_mul (x y : TRing) : eMul (rRoot x) y = rRoot (eMul x y) := by
 unfold eMul rRoot
 simp only [TRing.mk.injEq]
 refine ⟨?_, ?_, ?_, ?_⟩ <;> grind
theorem it_mul : ∀ (k : Nat) (x y : TRing), eMul (rIt k x) y = rIt k (eMul x y)
 | 0, _, _ => rfl
 | k + 1, x, y => by
  show eMul (rIt k (rRoot x)) y = rIt k (rRoot (eMul x y))
  rw [it_mul k, root_mul]
theorem it_mul' (k : Nat) (x y : TRing) : eMul x (rIt k y) = rIt k (eMul x y) := by rw [eMul_comm, it_mul, eMul_comm]
theorem root_inj {x y : TRing} (h : rRoot x = rRoot y) : x = y := by
 obtain ⟨a, b, c, d⟩ := x
 obtain ⟨a', b', c', d'⟩ := y
 unfold rRoot at h
 simp only [TRing.mk.injEq] at h ⊢
 omega
theorem it_inj : ∀ (k : Nat) {x y : TRing}, rIt k x = rIt k y → x = y
 | 0, _, _, h => h
 | k + 1, _, _, h => root_inj (it_inj k h)
theorem it_z : ∀ k, rIt k rZero = rZero
 | 0 => rfl
 | k + 1 => it_z k
theorem v_mul {x y z : TDyadic} (hx : dOk x = true) (hy : dOk y = true) (h : DM x y = some z) : rIt 60 (vOf z) = eMul (vOf x) (vOf y) := by
 obtain ⟨he, hv⟩ := dm_val hx hy h
 obtain ⟨x1, x2, x3⟩ := d_parts hx
 obtain ⟨y1, y2, y3⟩ := d_parts hy
 rw [hv, mul_exact x1 y1]
 unfold vOf
 rw [it_mul, it_mul', ← rIt_add, ← rIt_add]
 congr 1
 omega
theorem root_even {w : TRing} (h : rOk (rRoot w) = true) : rEven (rRoot w) = true := by
 rw [rOk_iff] at h
 unfold rEven
 rw [wr (by omega), wr (by omega), tm2, tm2]
 unfold rRoot
 simp only [Bool.and_eq_true, decide_eq_true_eq]
 omega
theorem v_inj_le {x y : TDyadic} (hx : dOk x = true) (hy : dOk y = true) (hle : x.Exp ≤ y.Exp) (h : vOf x = vOf y) : x = y := by
 obtain ⟨x1, x2, x3⟩ := d_parts hx
 obtain ⟨y1, y2, y3⟩ := d_parts hy
 unfold vOf at h
 rw [show (60 - x.Exp).toNat = (60 - y.Exp).toNat + (y.Exp - x.Exp).toNat by omega, rIt_add] at h
 have h := it_inj _ h
 by_cases he : x.Exp = y.Exp
 ·rw [he, Int.sub_self] at h
  have h : x.Num = y.Num := h
  obtain ⟨n, e⟩ := x
  obtain ⟨n', e'⟩ := y
  simp only at h he
  subst h he; rfl
 ·rw [show (y.Exp - x.Exp).toNat = 1 + ((y.Exp - x.Exp).toNat - 1) by omega, rIt_add] at h
  have h : rRoot (rIt ((y.Exp - x.Exp).toNat - 1) x.Num) = y.Num := h
  rw [← h] at y1
  have := root_even y1
  rw [h] at this
  unfold dOk at hy
  simp only [Bool.and_eq_true, Bool.or_eq_true, beq_iff_eq, this, Bool.not_true] at hy
  rcases hy.2 with h2 | h2
  ·omega
  ·cases h2
theorem v_inj {x y : TDyadic} (hx : dOk x = true) (hy : dOk y = true) (h : vOf x = vOf y) : x = y := by
 rcases Int.le_total x.Exp y.Exp with h1 | h1
 ·exact v_inj_le hx hy h1 h
 ·exact (v_inj_le hy hx h1 h.symm).symm
def eSum : Nat → (Nat → TRing) → TRing
 | 0, _ => rZero
 | n + 1, f => rPlus (eSum n f) (f n)
theorem eSum_congr : ∀ {n : Nat} {f g : Nat → TRing}, (∀ k, k < n → f k = g k) → eSum n f = eSum n g
 | 0, _, _, _ => rfl
 | n + 1, f, g, h => by
  show rPlus (eSum n f) (f n) = rPlus (eSum n g) (g n)
  rw [eSum_congr (fun k hk => h k (by omega)), h n (by omega)]
theorem eSum_plus : ∀ (n : Nat) (f g : Nat → TRing), eSum n (fun k => rPlus (f k) (g k)) = rPlus (eSum n f) (eSum n g)
 | 0, _, _ => rfl
 | n + 1, f, g => by
  show rPlus (eSum n fun k => rPlus (f k) (g k)) (rPlus (f n) (g n)) = rPlus (rPlus (eSum n f) (f n)) (rPlus (eSum n g) (g n))
  rw [eSum_plus n]
  unfold rPlus
  simp only [TRing.mk.injEq]; omega
theorem eSum_zero : ∀ (n : Nat), eSum n (fun _ => rZero) = rZero
 | 0 => rfl
 | n + 1 => by show rPlus (eSum n fun _ => rZero) rZero = rZero; rw [eSum_zero n]; rfl
theorem it_sum (k : Nat) : ∀ (n : Nat) (f : Nat → TRing), rIt k (eSum n f) = eSum n (fun i => rIt k (f i))
 | 0, _ => it_z k
 | n + 1, f => by
  show rIt k (rPlus (eSum n f) (f n)) = rPlus (eSum n fun i => rIt k (f i)) (rIt k (f n))
  rw [rIt_plus, it_sum k n]
/-- A sum of which one summand is not zero. -/
theorem eSum_one {f : Nat → TRing} {s : Nat} : ∀ {n : Nat}, s < n → (∀ k, k < n → k ≠ s → f k = rZero) → eSum n f = f s
 | 0, h, _ => absurd h (Nat.not_lt_zero _)
 | n + 1, h, hz => by
  show rPlus (eSum n f) (f n) = f s
  by_cases hs : s = n
  ·subst hs
   rw [eSum_congr (g := fun _ => rZero) (fun k hk => hz k (by omega) (by omega)), eSum_zero, zero_plus]
  ·rw [eSum_one (show s < n by omega) (fun k hk hne => hz k (by omega) hne), hz n (by omega) (fun h => hs h.symm), plus_zero]
def rConj (x : TRing) : TRing := TRing.mk x.A (-x.D) (-x.C) (-x.B)
theorem conj_root (x : TRing) : rRoot (rConj x) = rConj (rRoot x) := by
 unfold rRoot rConj
 simp only [TRing.mk.injEq]; omega
theorem conj_it : ∀ (k : Nat) (x : TRing), rIt k (rConj x) = rConj (rIt k x)
 | 0, _ => rfl
 | k + 1, x => by
  show rIt k (rRoot (rConj x)) = rConj (rIt k (rRoot x))
  rw [conj_root, conj_it k]
theorem v_conj (x : TDyadic) : vOf (dConj x) = rConj (vOf x) := conj_it _ _
theorem forN_ind {σ : Type} {f : Nat → σ → Option σ} (I : Nat → σ → Prop) : ∀ (k i : Nat) (s z : σ), forN f k i s = some z → I i s → (∀ j s s', i ≤ j → j < i + k → I j s → f j s = some s' → I (j + 1) s') → I (i + k) z
 | 0, _, _, _, h, hI, _ => by cases h; exact hI
 | k + 1, i, s, z, h, hI, hs => by
  obtain ⟨s', h1, h2⟩ := forN_go h
  have := forN_ind I k (i + 1) s' z h2 (hs i s s' (Nat.le_refl _) (by omega) hI h1) (fun j s s' h1 h2 => hs j s s' (by omega) (by omega))
  rwa [show i + (k + 1) = i + 1 + k by omega]
theorem dot_val {X Y : Nat → TDyadic} (hX : ∀ k, dOk (X k) = true) (hY : ∀ k, dOk (Y k) = true) {n : Nat} {z : TDyadic} (h : forN (dotS X Y) n 0 dZero = some z) :
  dOk z = true ∧ rIt 60 (vOf z) = eSum n (fun k => eMul (vOf (X k)) (vOf (Y k))) := by
 have := forN_ind (fun j s => dOk s = true ∧ rIt 60 (vOf s) = eSum j (fun k => eMul (vOf (X k)) (vOf (Y k)))) n 0 dZero z h ⟨dZero_ok, by unfold vOf; rw [show dZero.Num = rZero from rfl, it_z]; exact it_z _⟩ (fun j s s' _ _ hI hs => by
  unfold dotS at hs
  obtain ⟨p, hp, hs⟩ := Option.bind_eq_some_iff.1 hs
  have op := dm_ok (hX j) (hY j) hp
  refine ⟨da_ok hI.1 op hs, ?_⟩
  rw [da_val hI.1 op hs, rIt_plus, hI.2, v_mul (hX j) (hY j) hp]
  rfl)
 rwa [Nat.zero_add] at this
theorem rc_inj {C i j i' j' : Nat} (hj : j < C) (hj' : j' < C) (h : i * C + j = i' * C + j') : i = i' ∧ j = j' := by
 rcases Nat.lt_trichotomy i i' with h1 | h1 | h1
 ·have := Nat.mul_le_mul_right C (show i + 1 ≤ i' from h1)
  rw [Nat.add_mul] at this; omega
 ·subst h1; omega
 ·have := Nat.mul_le_mul_right C (show i' + 1 ≤ i from h1)
  rw [Nat.add_mul] at this; omega
theorem grid_get {cell : Nat → Nat → Option TDyadic} {R C : Nat} {l : List TDyadic} (h : gridO cell R C = some l) : l.length = R * C ∧ ∀ i j, i < R → j < C → cell i j = some (l.getD (i * C + j) dZero) := by
 have hP := forN_ind (fun i (l : List TDyadic) => l.length = i * C ∧ ∀ i' j', j' < C → i' * C + j' < i * C → cell i' j' = some (l.getD (i' * C + j') dZero)) R 0 [] l h ⟨by simp, fun i' j' _ h => by omega⟩ (fun i s s' _ _ hI hs => by
  have := forN_ind (fun j (l : List TDyadic) => l.length = i * C + j ∧ ∀ i' j', j' < C → i' * C + j' < i * C + j → cell i' j' = some (l.getD (i' * C + j') dZero)) C 0 s s' hs ⟨by omega, fun i' j' h1 h2 => hI.2 i' j' h1 (by omega)⟩ (fun j s s' _ hj hI hs => by
   obtain ⟨z, hz, hs⟩ := Option.bind_eq_some_iff.1 hs
   cases hs
   refine ⟨by simp [hI.1]; omega, fun i' j' h1 h2 => ?_⟩
   by_cases he : i' * C + j' = i * C + j
   ·obtain ⟨rfl, rfl⟩ := rc_inj h1 (by omega) he
    rw [hz, List.getD_eq_getElem?_getD, List.getElem?_append_right (by omega), hI.1]
    simp
   ·rw [hI.2 i' j' h1 (by omega), List.getD_eq_getElem?_getD, List.getD_eq_getElem?_getD, List.getElem?_append_left (by omega)])
  refine ⟨by rw [this.1, Nat.add_mul]; omega, fun i' j' h1 h2 => this.2 i' j' h1 (by rw [Nat.add_mul] at h2; omega)⟩)
 rw [Nat.zero_add] at hP
 exact ⟨hP.1, fun i j hi hj => hP.2 i j hj (ix_lt hi hj)⟩
theorem grid_ext {R C : Nat} {l l' : List TDyadic} (hl : l.length = R * C) (hl' : l'.length = R * C) (h : ∀ i j, i < R → j < C → l.getD (i * C + j) dZero = l'.getD (i * C + j) dZero) : l = l' := by
 apply List.ext_getElem (by omega)
 intro p h1 h2
 have hC : 0 < C := by
  rcases Nat.eq_zero_or_pos C with h0 | h0
  ·rw [h0, Nat.mul_zero] at hl; omega
  ·exact h0
 have hp : p / C * C + p % C = p := by rw [Nat.mul_comm]; exact Nat.div_add_mod p C
 have := h (p / C) (p % C) ((Nat.div_lt_iff_lt_mul hC).2 (by omega)) (Nat.mod_lt _ hC)
 rw [hp, List.getD_eq_getElem?_getD, List.getD_eq_getElem?_getD, List.getElem?_eq_getElem h1, List.getElem?_eq_getElem h2] at this
 exact this
/-- The value of a cell. -/
def vM (l : List TDyadic) (C i j : Nat) : TRing := vOf (l.getD (i * C + j) dZero)
theorem mm_val {a b l : List TDyadic} {R K C : Nat} (ha : okD a) (hb : okD b) (h : mmO a b R K C = some l) : l.length = R * C ∧ okD l ∧ ∀ i j, i < R → j < C → rIt 60 (vM l C i j) = eSum K (fun k => eMul (vM a K i k) (vM b C k j)) := by
 obtain ⟨h1, h2⟩ := grid_get h
 have hc : ∀ i j, i < R → j < C → _ := fun i j hi hj => dot_val (fun k => getD_ok ha _) (fun k => getD_ok hb _) (h2 i j hi hj)
 refine ⟨h1, fun z hz => ?_, fun i j hi hj => (hc i j hi hj).2⟩
 obtain ⟨p, hp, rfl⟩ := List.mem_iff_getElem.1 hz
 have hC : 0 < C := by
  rcases Nat.eq_zero_or_pos C with h0 | h0
  ·rw [h0, Nat.mul_zero] at h1; omega
  ·exact h0
 have hp2 : p / C * C + p % C = p := by rw [Nat.mul_comm]; exact Nat.div_add_mod p C
 have := (hc (p / C) (p % C) ((Nat.div_lt_iff_lt_mul hC).2 (by omega)) (Nat.mod_lt _ hC)).1
 rw [hp2, List.getD_eq_getElem?_getD, List.getElem?_eq_getElem hp] at this
 exact this
/-- Two matrices of the same values are the same. -/
theorem m_ext {R C : Nat} {l l' : List TDyadic} (hl : l.length = R * C) (hl' : l'.length = R * C) (o : okD l) (o' : okD l') (h : ∀ i j, i < R → j < C → vM l C i j = vM l' C i j) : l = l' :=
 grid_ext hl hl' fun i j hi hj => v_inj (getD_ok o _) (getD_ok o' _) (h i j hi hj)
def BOk (code : List Int) : Prop := code.length ≤ 9223372036854775807 ∧ ∀ y ∈ code, U8 y
/-- A draw gives a value that P is true of, and goes on by at most n places. -/
def Dr {α : Type} (f : Tl1Cur → Option (α × Tl1Cur)) (P : α → Prop) (n : Nat) : Prop :=
 ∀ (code : List Int) (a s : Int) (k : Nat), BOk code → 0 ≤ a → a ≤ k → k + n ≤ 1000000000 → ∃ v a' s', f (Tl1Cur.mk code a s) = some (v, Tl1Cur.mk code a' s') ∧ P v ∧ 0 ≤ a' ∧ a' ≤ ((k + n : Nat) : Int)
theorem Dr.mono {α : Type} {f : Tl1Cur → Option (α × Tl1Cur)} {P P' : α → Prop} {n n' : Nat} (h : Dr f P n) (hP : ∀ v, P v → P' v) (hn : n ≤ n') : Dr f P' n' := fun code a s k hb h0 h1 h2 => by
 obtain ⟨v, a', s', e, p, q, r⟩ := h code a s k hb h0 h1 (by omega)
 exact ⟨v, a', s', e, hP v p, q, by omega⟩
theorem next_d : Dr F_spec_l1Cur_next (fun v => 0 ≤ v ∧ v ≤ 255) 1 := fun code a s k hb h0 h1 h2 => by
 obtain ⟨b1, b2⟩ := hb
 have hw : IntKind.i64.wrap (a + 1) = a + 1 := wrap_i64 ⟨by omega, by omega⟩
 have hrest : ∀ b : Int, 0 ≤ b ∧ b ≤ 255 → ∃ v a' s', (bif (decide ((IntKind.i64.wrap (a + 1)) ≤ (code.length : Int))) then (some ((b, (Tl1Cur.mk code (IntKind.i64.wrap (a + 1)) (IntKind.u64.wrap ((IntKind.u64.wrap ((IntKind.u64.wrap (s * 6364136223846793005)) + (IntKind.u64.wrap b))) + 1442695040888963407)))))) else (some (((IntKind.i64.wrap (bits .and .u64 (shrK .u64 (IntKind.u64.wrap ((IntKind.u64.wrap ((IntKind.u64.wrap (s * 6364136223846793005)) + (IntKind.u64.wrap b))) + 1442695040888963407)) 40) 255)), (Tl1Cur.mk code (IntKind.i64.wrap (a + 1)) (IntKind.u64.wrap ((IntKind.u64.wrap ((IntKind.u64.wrap (s * 6364136223846793005)) + (IntKind.u64.wrap b))) + 1442695040888963407))))))) = some (v, Tl1Cur.mk code a' s') ∧ (0 ≤ v ∧ v ≤ 255) ∧ 0 ≤ a' ∧ a' ≤ ((k + 1 : Nat) : Int) := fun b hb => by
  rw [hw]
  cases decide (a + 1 ≤ (code.length : Int)) with
  | true => exact ⟨_, _, _, rfl, hb, by omega, by omega⟩
  | false =>
   refine ⟨_, _, _, rfl, ?_, by omega, by omega⟩
   generalize hz : IntKind.u64.wrap ((IntKind.u64.wrap ((IntKind.u64.wrap (s * 6364136223846793005)) + (IntKind.u64.wrap b))) + 1442695040888963407) = z
   have key : ∃ m : Nat, bits .and .u64 (shrK .u64 z 40) 255 = (m : Int) ∧ m ≤ 255 := by
    have z0 : 0 ≤ z := by rw [← hz]; exact Int.emod_nonneg _ (by decide)
    have z1 : z < 18446744073709551616 := by rw [← hz]; exact Int.emod_lt_of_pos _ (by decide)
    obtain ⟨n, rfl⟩ : ∃ n : Nat, z = n := ⟨z.toNat, by omega⟩
    rw [show (40 : Int) = ((40 : Nat) : Int) from rfl, shr_u n 40 (by decide), show (255 : Int) = ((255 : Nat) : Int) from rfl, and_u (Nat.lt_of_le_of_lt (Nat.div_le_self _ _) (by omega)) (by decide)]
    exact ⟨_, rfl, Nat.and_le_right⟩
   obtain ⟨m, e, hm⟩ := key
   rw [e, wrap_i64 (a := (m : Int)) ⟨by omega, by omega⟩]
   omega
 unfold F_spec_l1Cur_next
 simp only
 by_cases hlt : a < (code.length : Int)
 ·rw [decide_eq_true hlt]
  obtain ⟨x, hx, hx2⟩ := getI_at h0 hlt
  have := b2 x (List.mem_of_getElem? hx2)
  unfold U8 at this
  simp only [cond_true, hx, Option.bind_some]
  rw [wrap_i64 (a := x) ⟨by omega, by omega⟩]
  exact hrest x this
 ·rw [decide_eq_false hlt]
  simp only [cond_false, Option.bind_some]
  exact hrest 0 ⟨by decide, by decide⟩
theorem pick_d (n : Int) (hn : n ≤ 1000000) : Dr (fun c => F_spec_l1Cur_pick c n) (fun v => 0 ≤ v ∧ (v < n ∨ v = 0)) 2 := fun code a s k hb h0 h1 h2 => by
 unfold F_spec_l1Cur_pick
 by_cases hle : n ≤ 1
 ·rw [decide_eq_true hle]
  exact ⟨0, a, s, rfl, ⟨Int.le_refl 0, .inr rfl⟩, h0, by omega⟩
 ·rw [decide_eq_false hle]
  obtain ⟨v, a', s', e, hv, a0, a1⟩ := next_d code a s k hb h0 h1 (by omega)
  simp only [cond_false]
  rw [e]
  simp only [Option.bind_some]
  have tmb : ∀ x : Int, 0 ≤ x → 0 ≤ Int.tmod x n ∧ (Int.tmod x n < n ∨ Int.tmod x n = 0) := fun x hx => ⟨Int.tmod_nonneg n hx, .inl (Int.tmod_lt_of_pos x (by omega))⟩
  by_cases hbig : 200 < n
  ·rw [decide_eq_true hbig]
   obtain ⟨v2, a2, s2, e2, hv2, b0, b1⟩ := next_d code a' s' (k + 1) hb a0 a1 (by omega)
   simp only [cond_true]
   rw [e2]
   simp only [Option.bind_some]
   rw [chk_t (by omega), wrap_i64 (a := v * 256) ⟨by omega, by omega⟩, wrap_i64 (a := v * 256 + v2) ⟨by omega, by omega⟩]
   exact ⟨_, _, _, rfl, tmb _ (by omega), b0, by omega⟩
  ·rw [decide_eq_false hbig]
   simp only [cond_false, Option.bind_some]
   rw [chk_t (by omega)]
   exact ⟨_, _, _, rfl, tmb _ hv.1, a0, by omega⟩
theorem one_d (n : Int) (hn : n ≤ 1000000) : Dr (fun c => F_spec_l1Cur_one c n) (fun _ => True) 2 := fun code a s k hb h0 h1 h2 => by
 obtain ⟨v, a', s', e, hv, a0, a1⟩ := pick_d n hn code a s k hb h0 h1 h2
 unfold F_spec_l1Cur_one
 simp only at e ⊢
 rw [e]
 exact ⟨_, _, _, rfl, trivial, a0, a1⟩
theorem among_d (l : List Int) (hl : 1 ≤ l.length ∧ l.length ≤ 1000) : Dr (fun c => F_spec_l1Cur_among c l) (fun v => v ∈ l) 2 := fun code a s k hb h0 h1 h2 => by
 obtain ⟨v, a', s', e, hv, a0, a1⟩ := pick_d (l.length : Int) (by omega) code a s k hb h0 h1 h2
 unfold F_spec_l1Cur_among
 simp only at e ⊢
 rw [e]
 obtain ⟨x, hx, hx2⟩ := getI_at (l := l) hv.1 (by omega)
 simp only [Option.bind_some, hx]
 exact ⟨_, _, _, rfl, List.mem_of_getElem? hx2, a0, a1⟩
theorem pick_lt {n v : Int} (h : 0 ≤ v ∧ (v < n ∨ v = 0)) (hn : 0 < n) : 0 ≤ v ∧ v < n := by omega
theorem ring_d : Dr F_spec_l1Cur_ring (fun v => rOk v = true) 8 := fun code a s k hb h0 h1 h2 => by
 unfold F_spec_l1Cur_ring
 obtain ⟨v1, a1, s1, e1, p1, q1, r1⟩ := pick_d 9 (by decide) code a s k hb h0 h1 (by omega)
 simp only at e1 ⊢
 rw [e1]; simp only [Option.bind_some]
 obtain ⟨v2, a2, s2, e2, p2, q2, r2⟩ := pick_d 9 (by decide) code a1 s1 (k + 2) hb q1 r1 (by omega)
 simp only at e2
 rw [e2]; simp only [Option.bind_some]
 obtain ⟨v3, a3, s3, e3, p3, q3, r3⟩ := pick_d 9 (by decide) code a2 s2 (k + 2 + 2) hb q2 r2 (by omega)
 simp only at e3
 rw [e3]; simp only [Option.bind_some]
 obtain ⟨v4, a4, s4, e4, p4, q4, r4⟩ := pick_d 9 (by decide) code a3 s3 (k + 2 + 2 + 2) hb q3 r3 (by omega)
 simp only at e4
 rw [e4]; simp only [Option.bind_some]
 refine ⟨_, _, _, rfl, ?_, q4, by first | omega | (simp only; omega)⟩
 rw [wrap_i64 (a := v1 - 4) ⟨by omega, by omega⟩, wrap_i64 (a := v2 - 4) ⟨by omega, by omega⟩, wrap_i64 (a := v3 - 4) ⟨by omega, by omega⟩, wrap_i64 (a := v4 - 4) ⟨by omega, by omega⟩, rOk_iff]
 simp only
 omega
theorem dyadic_d : Dr F_spec_l1Cur_dyadic (fun v => dOk v = true) 10 := fun code a s k hb h0 h1 h2 => by
 unfold F_spec_l1Cur_dyadic
 obtain ⟨v1, a1, s1, e1, p1, q1, r1⟩ := ring_d code a s k hb h0 h1 (by omega)
 rw [e1]; simp only [Option.bind_some]
 obtain ⟨v2, a2, s2, e2, p2, q2, r2⟩ := pick_d 5 (by decide) code a1 s1 (k + 8) hb q1 r1 (by omega)
 simp only at e2
 rw [e2]; simp only [Option.bind_some]
 obtain ⟨z, z1, _, z2⟩ := low_both (e := v2) p1 ⟨by omega, by first | omega | (simp only; omega)⟩
 rw [z1]
 exact ⟨_, _, _, rfl, z2, q2, by first | omega | (simp only; omega)⟩
theorem coef_d : Dr F_spec_l1Cur_coef (fun _ => True) 4 := fun code a s k hb h0 h1 h2 => by
 unfold F_spec_l1Cur_coef
 obtain ⟨v1, a1, s1, e1, p1, q1, r1⟩ := pick_d 24 (by decide) code a s k hb h0 h1 (by omega)
 simp only at e1 ⊢
 rw [e1]; simp only [Option.bind_some]
 cases v1 == 0 with
 | true =>
  obtain ⟨v2, a2, s2, e2, p2, q2, r2⟩ := among_d [1000000000, (-1000000000), 1000000001, (-1000000001)] (by decide) code a1 s1 (k + 2) hb q1 r1 (by omega)
  simp only at e2
  simp only [cond_true]; rw [e2]
  exact ⟨_, _, _, rfl, trivial, q2, by first | omega | (simp only; omega)⟩
 | false =>
  cases v1 == 1 with
  | true =>
   obtain ⟨v2, a2, s2, e2, p2, q2, r2⟩ := pick_d 60000 (by decide) code a1 s1 (k + 2) hb q1 r1 (by omega)
   simp only at e2
   simp only [cond_true, cond_false]; rw [e2]
   exact ⟨_, _, _, rfl, trivial, q2, by first | omega | (simp only; omega)⟩
  | false =>
   simp only [cond_false]
   have : ∃ t, (bif v1 == 2 then (some (v1 == 2)) else (some (v1 == 3)) : Option Bool) = some t := by cases v1 == 2 <;> exact ⟨_, rfl⟩
   obtain ⟨t, ht⟩ := this
   rw [ht]
   simp only [Option.bind_some]
   cases t with
   | true =>
    obtain ⟨v2, a2, s2, e2, p2, q2, r2⟩ := pick_d 2000 (by decide) code a1 s1 (k + 2) hb q1 r1 (by omega)
    simp only at e2
    simp only [cond_true]; rw [e2]
    exact ⟨_, _, _, rfl, trivial, q2, by first | omega | (simp only; omega)⟩
   | false =>
    obtain ⟨v2, a2, s2, e2, p2, q2, r2⟩ := pick_d 9 (by decide) code a1 s1 (k + 2) hb q1 r1 (by omega)
    simp only at e2
    simp only [cond_false]; rw [e2]
    exact ⟨_, _, _, rfl, trivial, q2, by first | omega | (simp only; omega)⟩
theorem anyRing_d : Dr F_spec_l1Cur_anyRing (fun _ => True) 18 := fun code a s k hb h0 h1 h2 => by
 unfold F_spec_l1Cur_anyRing
 obtain ⟨v1, a1, s1, e1, p1, q1, r1⟩ := one_d 3 (by decide) code a s k hb h0 h1 (by omega)
 simp only at e1 ⊢
 rw [e1]; simp only [Option.bind_some]
 cases v1 with
 | true =>
  simp only [cond_true]
  obtain ⟨v2, a2, s2, e2, p2, q2, r2⟩ := coef_d code a1 s1 (k + 2) hb q1 r1 (by omega)
  rw [e2]; simp only [Option.bind_some]
  obtain ⟨v3, a3, s3, e3, p3, q3, r3⟩ := coef_d code a2 s2 (k + 2 + 4) hb q2 r2 (by omega)
  rw [e3]; simp only [Option.bind_some]
  obtain ⟨v4, a4, s4, e4, p4, q4, r4⟩ := coef_d code a3 s3 (k + 2 + 4 + 4) hb q3 r3 (by omega)
  rw [e4]; simp only [Option.bind_some]
  obtain ⟨v5, a5, s5, e5, p5, q5, r5⟩ := coef_d code a4 s4 (k + 2 + 4 + 4 + 4) hb q4 r4 (by omega)
  rw [e5]
  exact ⟨_, _, _, rfl, trivial, q5, by first | omega | (simp only; omega)⟩
 | false =>
  simp only [cond_false]
  obtain ⟨v2, a2, s2, e2, p2, q2, r2⟩ := ring_d code a1 s1 (k + 2) hb q1 r1 (by omega)
  rw [e2]
  exact ⟨_, _, _, rfl, trivial, q2, by first | omega | (simp only; omega)⟩
theorem power_small : ∀ k : Fin 9, (F_spec_l2Power (k.val : Int)).isSome = true := by decide +kernel
theorem power_d (k : Fin 9) : ∃ z, F_spec_l2Power (k.val : Int) = some z := Option.isSome_iff_exists.1 (power_small k)
theorem anyDyadic_d : Dr F_spec_l1Cur_anyDyadic (fun _ => True) 40 := fun code a s k hb h0 h1 h2 => by
 unfold F_spec_l1Cur_anyDyadic
 obtain ⟨v1, a1, s1, e1, p1, q1, r1⟩ := pick_d 14 (by decide) code a s k hb h0 h1 (by omega)
 simp only at e1 ⊢
 rw [e1]; simp only [Option.bind_some]
 have rest : ∀ (a2 s2 : Int), 0 ≤ a2 → a2 ≤ ((k + 24 : Nat) : Int) → ∃ v a' s', ((F_spec_l1Cur_dyadic (Tl1Cur.mk code a2 s2)).bind fun (r_10, m7) => some ((r_10, (Tl1Cur.mk code m7.at_ m7.seed)))) = some (v, Tl1Cur.mk code a' s') ∧ True ∧ 0 ≤ a' ∧ a' ≤ ((k + 40 : Nat) : Int) := fun a2 s2 q2 r2 => by
  obtain ⟨v3, a3, s3, e3, p3, q3, r3⟩ := dyadic_d code a2 s2 (k + 24) hb q2 r2 (by omega)
  rw [e3]
  exact ⟨_, _, _, rfl, trivial, q3, by first | omega | (simp only; omega)⟩
 cases v1 == 0 with
 | true =>
  simp only [cond_true]
  obtain ⟨v2, a2, s2, e2, p2, q2, r2⟩ := ring_d code a1 s1 (k + 2) hb q1 r1 (by omega)
  rw [e2]; simp only [Option.bind_some]
  obtain ⟨v3, a3, s3, e3, p3, q3, r3⟩ := among_d [1, 2, 60, 61, (-1)] (by decide) code a2 s2 (k + 2 + 8) hb q2 r2 (by omega)
  simp only at e3
  rw [e3]
  exact ⟨_, _, _, rfl, trivial, q3, by first | omega | (simp only; omega)⟩
 | false =>
  cases v1 == 1 with
  | true =>
   simp only [cond_true, cond_false]
   obtain ⟨v2, a2, s2, e2, p2, q2, r2⟩ := anyRing_d code a1 s1 (k + 2) hb q1 r1 (by omega)
   rw [e2]; simp only [Option.bind_some]
   rw [spec_ring]; simp only [Option.bind_some]
   cases hr : rOk v2 with
   | true =>
    simp only [cond_true]
    obtain ⟨v3, a3, s3, e3, p3, q3, r3⟩ := among_d [0, 3, 59, 60] (by decide) code a2 s2 (k + 2 + 18) hb q2 r2 (by omega)
    simp only at e3
    rw [e3]; simp only [Option.bind_some]
    have hv3 : 0 ≤ v3 ∧ v3 ≤ 60 := by simp only [List.mem_cons, List.not_mem_nil, or_false] at p3; omega
    obtain ⟨z, z1, _, z2⟩ := low_both hr hv3
    rw [z1]
    exact ⟨_, _, _, rfl, trivial, q3, by first | omega | (simp only; omega)⟩
   | false =>
    simp only [cond_false, Option.bind_some, orR]
    exact rest a2 s2 q2 (by omega)
  | false =>
   cases v1 == 2 with
   | true =>
    simp only [cond_true, cond_false]
    obtain ⟨v2, a2, s2, e2, p2, q2, r2⟩ := pick_d 8 (by decide) code a1 s1 (k + 2) hb q1 r1 (by omega)
    simp only at e2
    rw [e2]; simp only [Option.bind_some]
    obtain ⟨n2, hn2⟩ : ∃ n2 : Nat, v2 = n2 := ⟨v2.toNat, by first | omega | (simp only; omega)⟩
    obtain ⟨z, z1⟩ := power_d ⟨n2, by first | omega | (simp only; omega)⟩
    simp only at z1
    rw [hn2, z1]
    exact ⟨_, _, _, rfl, trivial, q2, by first | omega | (simp only; omega)⟩
   | false =>
    simp only [cond_false, Option.bind_some, orR]
    exact rest a1 s1 q1 (by omega)
theorem matrix_d (R C : Nat) (hR : R ≤ 32) (hC : C ≤ 32) : Dr (fun c => F_spec_l1Cur_matrix c (R : Int) (C : Int)) (fun m => ∃ l, m = TMatrix.mk R C l ∧ l.length = R * C ∧ okD l) 10240 := fun code a s k hb h0 h1 h2 => by
 have hRC : R * C ≤ 32 * 32 := Nat.mul_le_mul hR hC
 have hw : (IntKind.i64.wrap ((R : Int) * (C : Int))).toNat = R * C := by
  have e : (R : Int) * (C : Int) = ((R * C : Nat) : Int) := by push_cast; rfl
  rw [e, wrap_i64 ⟨by omega, by omega⟩, Int.toNat_natCast]
 unfold F_spec_l1Cur_matrix
 simp only
 rw [hw, chk_t (by omega)]
 obtain ⟨⟨a2, s2, l⟩, e1, e2, e3, e4, e5⟩ := forN_inv (f := F_spec_l1Cur_matrix_l1 (Tl1Cur.mk code a s)) (fun i t => 0 ≤ t.1 ∧ t.1 ≤ ((k + 10 * i : Nat) : Int) ∧ t.2.2.length = i ∧ okD t.2.2) (R * C) 0 (a, s, []) ⟨h0, by simp only; omega, rfl, fun z hz => (by cases hz)⟩ (fun i t _ hi ⟨t1, t2, t3, t4⟩ => by
  obtain ⟨a2, s2, l⟩ := t
  simp only at t1 t2 t3 t4
  unfold F_spec_l1Cur_matrix_l1
  simp only
  obtain ⟨v3, a3, s3, e3, p3, q3, r3⟩ := dyadic_d code a2 s2 (k + 10 * i) hb t1 t2 (by omega)
  rw [e3]; simp only [Option.bind_some]
  rw [chk_t (by omega)]
  exact ⟨_, rfl, q3, by simp only; omega, by simp [t3], okD_snoc t4 p3⟩)
 rw [e1]
 simp only at e2 e3 e4 e5
 exact ⟨_, _, _, rfl, ⟨l, rfl, by omega, e5⟩, e2, by first | omega | (simp only; omega)⟩
theorem dim_among {v : Int} {l : List Int} (h : v ∈ l) (hl : ∀ x ∈ l, x = 1 ∨ x = 2 ∨ x = 4) : ∃ n : Nat, v = n ∧ 1 ≤ n ∧ n ≤ 4 ∧ n ∈ [1, 2, 4, 8, 16, 32] := by
 rcases hl v h with rfl | rfl | rfl
 ·exact ⟨1, rfl, by omega, by omega, by simp⟩
 ·exact ⟨2, rfl, by omega, by omega, by simp⟩
 ·exact ⟨4, rfl, by omega, by omega, by simp⟩
theorem anyMatrix_d : Dr F_spec_l1Cur_anyMatrix (fun m => m.Cells.length ≤ 1024) 10300 := fun code a s k hb h0 h1 h2 => by
 unfold F_spec_l1Cur_anyMatrix
 obtain ⟨v1, a1, s1, e1, p1, q1, r1⟩ := among_d [1, 2, 2, 4] (by decide) code a s k hb h0 h1 (by omega)
 simp only at e1 ⊢
 rw [e1]; simp only [Option.bind_some]
 obtain ⟨v2, a2, s2, e2, p2, q2, r2⟩ := among_d [1, 2, 2, 4] (by decide) code a1 s1 (k + 2) hb q1 r1 (by omega)
 simp only at e2
 rw [e2]; simp only [Option.bind_some]
 obtain ⟨R, rfl, R1, R2, _⟩ := dim_among p1 (by simp)
 obtain ⟨C, rfl, C1, C2, _⟩ := dim_among p2 (by simp)
 obtain ⟨v3, a3, s3, e3, ⟨l, rfl, hl, ol⟩, q3, r3⟩ := matrix_d R C (by omega) (by omega) code a2 s2 (k + 2 + 2) hb q2 r2 (by omega)
 simp only at e3
 rw [e3]; simp only [Option.bind_some]
 have hRC : R * C ≤ 4 * 4 := Nat.mul_le_mul R2 C2
 have hRC1 : 1 * 1 ≤ R * C := Nat.mul_le_mul R1 C1
 obtain ⟨v4, a4, s4, e4, p4, q4, r4⟩ := pick_d 12 (by decide) code a3 s3 (k + 2 + 2 + 10240) hb q3 r3 (by omega)
 simp only at e4
 rw [e4]; simp only [Option.bind_some]
 cases v4 == 0 with
 | true =>
  simp only [cond_true]
  obtain ⟨v5, a5, s5, e5, p5, q5, r5⟩ := among_d [0, 3, 64, (-1), 1] (by decide) code a4 s4 (k + 2 + 2 + 10240 + 2) hb q4 r4 (by omega)
  simp only at e5
  rw [e5]
  exact ⟨_, _, _, rfl, by simp only; omega, q5, by first | omega | (simp only; omega)⟩
 | false =>
  cases v4 == 1 with
  | true =>
   simp only [cond_true, cond_false]
   obtain ⟨v5, a5, s5, e5, p5, q5, r5⟩ := pick_d (l.length : Int) (by omega) code a4 s4 (k + 2 + 2 + 10240 + 2) hb q4 r4 (by omega)
   simp only at e5
   rw [e5]; simp only [Option.bind_some]
   obtain ⟨v6, a6, s6, e6, p6, q6, r6⟩ := anyDyadic_d code a5 s5 (k + 2 + 2 + 10240 + 2 + 2) hb q5 r5 (by omega)
   rw [e6]; simp only [Option.bind_some]
   obtain ⟨x, hx, _⟩ := getI_at (l := l) p5.1 (by omega)
   rw [hx]
   exact ⟨_, _, _, rfl, by simp only [List.length_set]; omega, q6, by first | omega | (simp only; omega)⟩
  | false =>
   cases v4 == 2 with
   | true =>
    simp only [cond_true, cond_false]
    rw [chk_t (by omega)]
    exact ⟨_, _, _, rfl, by simp only [List.length_drop]; omega, q4, by first | omega | (simp only; omega)⟩
   | false =>
    cases v4 == 3 with
    | true =>
     simp only [cond_true, cond_false]
     obtain ⟨v5, a5, s5, e5, p5, q5, r5⟩ := among_d [1, 2, 4] (by decide) code a4 s4 (k + 2 + 2 + 10240 + 2) hb q4 r4 (by omega)
     simp only at e5
     rw [e5]; simp only [Option.bind_some]
     obtain ⟨U, rfl, U1, U2, U3⟩ := dim_among p5 (by simp)
     rw [unit_spec U U3]
     have hUU : U * U ≤ 4 * 4 := Nat.mul_le_mul U2 U2
     exact ⟨_, _, _, rfl, by simp only [unit_len]; omega, q5, by first | omega | (simp only; omega)⟩
    | false =>
     simp only [cond_false]
     exact ⟨_, _, _, rfl, by simp only; omega, q4, by first | omega | (simp only; omega)⟩

theorem meq_self {M : TMatrix} (h : M.Cells.length ≤ 9223372036854775807) : F_spec_EqualMatrices M M = some true := by
 unfold F_spec_EqualMatrices
 simp only [bne_self_eq_false, Bool.or_self, cond_false]
 rw [chk_t h, forX_same (f := F_spec_EqualMatrices_l1 M M) (l := M.Cells) (l' := M.Cells) (q := false) rfl (fun i x y hx hy => by
  unfold F_spec_EqualMatrices_l1
  have hxy : x = y := Option.some.inj (hx.symm.trans hy)
  subst hxy
  rw [getI_nat, hx]
  simp only [Option.bind_some]
  rw [dy_eq, decide_eq_true rfl]; rfl), if_pos rfl]
 rfl
theorem mulM_both {A B : TMatrix} (hA : A.Cells.length ≤ 9223372036854775807) (hB : B.Cells.length ≤ 9223372036854775807) : ∃ M ok, F_impl_MulMatrix A B = some (M, ok) ∧ F_spec_MulMatrix A B = some (M, ok) ∧ M.Cells.length ≤ 1024 ∧
  (ok = true → ∃ (R K C : Nat) (la lb l : List TDyadic), A = TMatrix.mk R K la ∧ B = TMatrix.mk K C lb ∧ mOk A = true ∧ mOk B = true ∧ M = TMatrix.mk R C l ∧ mOk M = true ∧ mmO la lb R K C = some l) := by
 unfold F_spec_MulMatrix
 have hi : F_impl_MulMatrix A B = F_impl_MulMatrix A B := rfl
 rw [spec_mgood A hA]
 cases ha : mOk A with
 | false =>
  refine ⟨_, _, ?_, rfl, by simp, fun h => by cases h⟩
  unfold F_impl_MulMatrix
  rw [impl_mgood A hA, ha]; rfl
 | true =>
  simp only [Option.bind_some, Bool.not_true, Bool.not_false, gb, cond_true]
  rw [spec_mgood B hB]
  cases hb : mOk B with
  | false =>
   refine ⟨_, _, ?_, rfl, by simp, fun h => by cases h⟩
   unfold F_impl_MulMatrix
   rw [impl_mgood A hA, ha]
   simp only [Option.bind_some, Bool.not_true, Bool.not_false, gb, cond_true]
   rw [impl_mgood B hB, hb]; rfl
  | true =>
   obtain ⟨R, K, la, rfl, a1, a2, a3, a4, a5, a6⟩ := m_parts ha
   obtain ⟨K', C, lb, rfl, b1, b2, b3, b4, b5, b6⟩ := m_parts hb
   simp only [Option.bind_some, Bool.not_true, Bool.false_or, Bool.or_self]
   by_cases hK : K = K'
   ·subst hK
    rw [show ((K : Int) != (K : Int)) = false from bne_self_eq_false _]
    simp only [cond_false]
    obtain ⟨l, c, e, g⟩ := sp_times a6 b6 a5 b5 a3.2 a4.2 b4.2 false
    obtain ⟨i1, i2⟩ := im_mul ha hb
    have hRC : R * C ≤ 32 * 32 := Nat.mul_le_mul a3.2 b4.2
    rw [show F_spec_l2C_times (Tl2C.mk false) (TMatrix.mk R K la) (TMatrix.mk K C lb) = _ from e, i1]
    rcases g.good with ⟨p, rfl⟩ | ⟨p, rfl⟩
    ·rw [p]
     exact ⟨_, _, rfl, rfl, by simp only; rw [g.1.2]; omega, fun _ => ⟨R, K, C, la, lb, l, rfl, rfl, by first | exact ha | trivial, by first | exact hb | trivial, rfl, m_make a1 b2 g.1.2 g.1.1, p⟩⟩
    ·rw [p]
     exact ⟨_, _, rfl, rfl, by simp, fun h => by cases h⟩
   ·have e : ((K : Int) != (K' : Int)) = true := by simp; omega
    rw [e]
    refine ⟨_, _, ?_, rfl, by simp, fun h => by cases h⟩
    unfold F_impl_MulMatrix
    rw [impl_mgood _ hA, ha]
    simp only [Option.bind_some, Bool.not_true, Bool.not_false, gb, cond_true]
    rw [impl_mgood _ hB, hb]
    simp only [Option.bind_some, Bool.not_true, Bool.false_or, Bool.or_self]
    rw [e]; rfl
theorem unit_get {n i j : Nat} (hi : i < n) (hj : j < n) : (unitL n).getD (i * n + j) dZero = if i = j then dOne else dZero := by
 have hp := ix_lt hi hj
 have hn : 0 < n := by omega
 rw [List.getD_eq_getElem?_getD, unitL, List.getElem?_map, List.getElem?_range hp]
 show (if (i * n + j) / n = (i * n + j) % n then dOne else dZero) = _
 have h1 : (i * n + j) / n = i := by rw [Nat.mul_comm, Nat.mul_add_div hn, Nat.div_eq_of_lt hj]; omega
 have h2 : (i * n + j) % n = j := by rw [Nat.mul_comm, Nat.mul_add_mod, Nat.mod_eq_of_lt hj]
 rw [h1, h2]
/-- A gate that is taken, over n wires. -/
def gOk (n : Int) (g : TGate) : Bool :=
 bif decide (1 ≤ g.Kind) && decide (g.Kind ≤ 8) then decide (0 ≤ g.A) && decide (g.A ≤ n - 1) && (g.B == 0)
 else bif decide (9 ≤ g.Kind) && decide (g.Kind ≤ 11) then decide (0 ≤ g.A) && decide (g.A ≤ n - 1) && (decide (0 ≤ g.B) && decide (g.B ≤ n - 1)) && (g.A != g.B)
 else (g.Kind == 12) && (g.A == 0) && (g.B == 0)
theorem gOk_cases {n : Int} {g : TGate} (h : gOk n g = true) : (1 ≤ g.Kind ∧ g.Kind ≤ 8 ∧ 0 ≤ g.A ∧ g.A ≤ n - 1) ∨ (9 ≤ g.Kind ∧ g.Kind ≤ 11 ∧ 0 ≤ g.A ∧ g.A ≤ n - 1 ∧ 0 ≤ g.B ∧ g.B ≤ n - 1 ∧ g.A ≠ g.B) ∨ g.Kind = 12 := by
 unfold gOk at h
 by_cases h1 : 1 ≤ g.Kind ∧ g.Kind ≤ 8
 ·have e : (decide (1 ≤ g.Kind) && decide (g.Kind ≤ 8)) = true := by simp [h1]
  rw [e, cond_true] at h
  simp at h
  exact .inl ⟨h1.1, h1.2, h.1.1, h.1.2⟩
 ·have e : (decide (1 ≤ g.Kind) && decide (g.Kind ≤ 8)) = false := by simp; omega
  rw [e, cond_false] at h
  by_cases h2 : 9 ≤ g.Kind ∧ g.Kind ≤ 11
  ·have e : (decide (9 ≤ g.Kind) && decide (g.Kind ≤ 11)) = true := by simp [h2]
   rw [e, cond_true] at h
   simp at h
   exact .inr (.inl ⟨h2.1, h2.2, h.1.1.1, h.1.1.2, h.1.2.1, h.1.2.2, h.2⟩)
  ·have e : (decide (9 ≤ g.Kind) && decide (g.Kind ≤ 11)) = false := by simp; omega
   rw [e, cond_false] at h
   simp at h
   exact .inr (.inr h.1.1)
def bi (i s : Nat) : Nat := (i >>> s) % 2
def fl (i s : Nat) : Nat := i ^^^ (2 ^ s)
theorem bit_small : ∀ (i : Fin 32) (s : Fin 5), bits .and .i64 (shrK .i64 (i.val : Int) (s.val : Int)) 1 = ((bi i.val s.val : Nat) : Int) := by decide +kernel
theorem fl_small : ∀ (i : Fin 32) (s : Fin 5), bits .xor .i64 (i.val : Int) (shlK .i64 1 (s.val : Int)) = ((fl i.val s.val : Nat) : Int) ∧ fl i.val s.val < 32 := by decide +kernel
theorem an_small : ∀ (r c : Fin 32) (s : Fin 5), (bits .andNot .i64 (bits .xor .i64 (r.val : Int) (c.val : Int)) (shlK .i64 1 (s.val : Int)) != 0) = !(decide (r.val = c.val) || decide (fl r.val s.val = c.val)) := by decide +kernel
def phD (k : Int) : TDyadic := (F_impl_phase k).getD dZero
theorem ph_small : ∀ k : Fin 9, F_spec_l2Power (k.val : Int) = some (phD k.val) ∧ F_impl_phase (k.val : Int) = some (phD k.val) ∧ dOk (phD k.val) = true := by decide +kernel
theorem bi_lt (i s : Nat) : bi i s < 2 := Nat.mod_lt _ (by decide)
theorem wru {a : Int} (h : 0 ≤ a ∧ a ≤ 9000000000000000000) : IntKind.u64.wrap a = a := by
 simp [IntKind.wrap, IntKind.signed, IntKind.bits]
 omega
section
variable {n a i : Nat}
theorem sp_bit (hn : n ≤ 5) (ha : a < n) (hi : i < 32) : F_spec_l6Bit n i a = some ((bi i (n - 1 - a) : Nat) : Int) := by
 unfold F_spec_l6Bit
 rw [wr (a := (n : Int) - 1) (by omega), wr (a := (n : Int) - 1 - a) (by omega), wru (a := (n : Int) - 1 - a) (by omega), chk_t (by omega), show (n : Int) - 1 - a = ((n - 1 - a : Nat) : Int) by omega]
 exact congrArg some (bit_small ⟨i, hi⟩ ⟨n - 1 - a, by omega⟩)
end
theorem ibeq (i j : Nat) : ((i : Int) == (j : Int)) = decide (i = j) := by
 rw [Bool.eq_iff_iff, beq_iff_eq, decide_eq_true_eq]; omega
theorem ibne (i j : Nat) : ((i : Int) != (j : Int)) = !decide (i = j) := by
 unfold bne; rw [ibeq]
theorem one_beq (i : Nat) : ((i : Int) == 1) = decide (i = 1) := ibeq i 1
theorem phk {k : Nat} (h : k < 9) : F_spec_l2Power (k : Int) = some (phD k) ∧ F_impl_phase (k : Int) = some (phD k) ∧ dOk (phD k) = true := ph_small ⟨k, h⟩
theorem bif_dec {α : Type} {p : Prop} [Decidable p] {x y : α} : (bif decide p then x else y) = if p then x else y := by
 by_cases h : p <;> simp [h]
theorem sel_ok (b : Bool) {x : TDyadic} (h : dOk x = true) : dOk (bif b then x else dZero) = true := by cases b; exact dZero_ok; exact h
theorem bsomeT {b : Bool} {x : TDyadic} : (bif b then some x else some (TDyadic.mk (TRing.mk 0 0 0 0) 0)) = some (bif b then x else dZero) := by cases b <;> rfl
theorem pow_le {n : Nat} (hn : 1 ≤ n ∧ n ≤ 5) : 2 ≤ 2 ^ n ∧ 2 ^ n ≤ 32 := by
 have : n = 1 ∨ n = 2 ∨ n = 3 ∨ n = 4 ∨ n = 5 := by omega
 rcases this with rfl | rfl | rfl | rfl | rfl <;> decide
theorem pow_dim {n : Nat} (hn : 1 ≤ n ∧ n ≤ 5) : dimB ((2 ^ n : Nat) : Int) = true := by
 have : n = 1 ∨ n = 2 ∨ n = 3 ∨ n = 4 ∨ n = 5 := by omega
 rcases this with rfl | rfl | rfl | rfl | rfl <;> decide
theorem shl_u {n : Nat} (hn : 1 ≤ n ∧ n ≤ 5) : shlK .i64 1 (IntKind.u64.wrap (n : Int)) = ((2 ^ n : Nat) : Int) := by
 have : n = 1 ∨ n = 2 ∨ n = 3 ∨ n = 4 ∨ n = 5 := by omega
 rcases this with rfl | rfl | rfl | rfl | rfl <;> decide
theorem eSum_two {f : Nat → TRing} {s t : Nat} : ∀ {n : Nat}, s < n → t < n → s ≠ t → (∀ k, k < n → k ≠ s → k ≠ t → f k = rZero) → eSum n f = rPlus (f s) (f t)
 | 0, h, _, _, _ => absurd h (Nat.not_lt_zero _)
 | n + 1, hs, ht, hst, hz => by
  show rPlus (eSum n f) (f n) = _
  by_cases h1 : s = n
  ·subst h1
   rw [eSum_one (show t < s by omega) (fun k hk hne => hz k (by omega) (by omega) hne), plus_comm]
  ·by_cases h2 : t = n
   ·subst h2
    rw [eSum_one (show s < t by omega) (fun k hk hne => hz k (by omega) hne (by omega))]
   ·rw [eSum_two (show s < n by omega) (show t < n by omega) hst (fun k hk a b => hz k (by omega) a b), hz n (by omega) (fun h => h1 h.symm) (fun h => h2 h.symm), plus_zero]
def rOne' : TRing := TRing.mk 1 0 0 0
theorem zero_mul' (x : TRing) : eMul rZero x = rZero := by rw [eMul_comm, eMul_zero]
theorem one_mul' (x : TRing) : eMul rOne' x = x := by simp [eMul, rOne']
theorem v_dz' : vOf dZero = rZero := it_z _
/-- The absolute square of a number's value. -/
def aSq (x y : TRing) : TRing := eMul x (rConj y)
theorem aSq_it (a b : Nat) (x y : TRing) : aSq (rIt a x) (rIt b y) = rIt (a + b) (aSq x y) := by
 unfold aSq
 rw [← conj_it, it_mul, it_mul', ← rIt_add]
def hv (s : Int) : TRing := rIt 59 (TRing.mk s 0 0 0)
theorem gate_d (n : Nat) (hn : 1 ≤ n ∧ n ≤ 6) (kinds : List Int) (hk : 1 ≤ kinds.length ∧ kinds.length ≤ 1000) (hr : ∀ x ∈ kinds, 1 ≤ x ∧ x ≤ 12) : Dr (fun c => F_spec_l1Cur_gate c (n : Int) kinds) (fun g => gOk n g = true) 8 := fun code a s k hb h0 h1 h2 => by
 unfold F_spec_l1Cur_gate
 obtain ⟨v1, a1, s1, e1, p1, q1, r1⟩ := pick_d (kinds.length : Int) (by omega) code a s k hb h0 h1 (by omega)
 simp only at e1 ⊢
 rw [e1]; simp only [Option.bind_some]
 obtain ⟨x, hx, hx2⟩ := getI_at (l := kinds) (i := v1) p1.1 (by omega)
 have hxr := hr x (List.mem_of_getElem? hx2)
 rw [hx]; simp only [Option.bind_some]
 by_cases h12 : x = 12
 ·subst h12
  simp only [beq_self_eq_true, cond_true]
  exact ⟨_, _, _, rfl, by unfold gOk; simp, q1, by first | omega | (simp only; omega)⟩
 ·have e12 : (x == 12) = false := by simp [h12]
  rw [e12]
  simp only [cond_false]
  obtain ⟨v2, a2, s2, e2, p2, q2, r2⟩ := pick_d (n : Int) (by omega) code a1 s1 (k + 2) hb q1 r1 (by omega)
  simp only at e2
  rw [e2]; simp only [Option.bind_some]
  unfold F_spec_l1In
  simp only [Option.bind_some]
  by_cases h9 : 9 ≤ x ∧ x ≤ 11
  ·rw [decide_eq_true h9.1, decide_eq_true h9.2]
   simp only [Bool.and_self, cond_true]
   by_cases hn1 : n = 1
   ·subst hn1
    simp only [beq_self_eq_true, cond_true, Option.bind_some, orR, show (((1 : Nat) : Int) == 1) = true from rfl]
    exact ⟨_, _, _, rfl, by unfold gOk; simp, q2, by first | omega | (simp only; omega)⟩
   ·have en : ((n : Int) == 1) = false := by simp; omega
    rw [en]
    simp only [cond_false]
    rw [wrap_i64 (a := (n : Int) - 1) ⟨by omega, by omega⟩]
    obtain ⟨v3, a3, s3, e3, p3, q3, r3⟩ := pick_d ((n : Int) - 1) (by omega) code a2 s2 (k + 2 + 2) hb q2 r2 (by omega)
    simp only at e3
    rw [e3]; simp only [Option.bind_some]
    have hv2 := pick_lt p2 (by omega)
    have hv3 := pick_lt p3 (by omega)
    rw [chk_t (by omega), wrap_i64 (a := v2 + 1) ⟨by omega, by omega⟩, wrap_i64 (a := v2 + 1 + v3) ⟨by omega, by omega⟩]
    have w0 : 0 ≤ Int.tmod (v2 + 1 + v3) (n : Int) := Int.tmod_nonneg _ (by omega)
    have w1 : Int.tmod (v2 + 1 + v3) (n : Int) < (n : Int) := Int.tmod_lt_of_pos _ (by omega)
    have wne : Int.tmod (v2 + 1 + v3) (n : Int) ≠ v2 := by
     rw [Int.tmod_eq_emod_of_nonneg (by omega)]
     by_cases hlt : v2 + 1 + v3 < (n : Int)
     ·rw [Int.emod_eq_of_lt (by omega) hlt]; omega
     ·have : (v2 + 1 + v3) % (n : Int) = v2 + 1 + v3 - (n : Int) := by
       rw [← Int.sub_emod_right, Int.emod_eq_of_lt (by omega) (by omega)]
      rw [this]; omega
    simp only [Option.bind_some, orR]
    refine ⟨_, _, _, rfl, ?_, q3, by first | omega | (simp only; omega)⟩
    generalize Int.tmod (v2 + 1 + v3) (n : Int) = w at w0 w1 wne
    unfold gOk
    simp only
    rw [show (decide (1 ≤ x) && decide (x ≤ 8)) = false by simp; omega, decide_eq_true h9.1, decide_eq_true h9.2, decide_eq_true hv2.1, decide_eq_true (show v2 ≤ (n : Int) - 1 by omega), decide_eq_true w0, decide_eq_true (show w ≤ (n : Int) - 1 by omega)]
    simp
    omega
  ·have e9 : (decide (9 ≤ x) && decide (x ≤ 11)) = false := by
    simp only [Bool.and_eq_false_iff, decide_eq_false_iff_not]; omega
   rw [e9]
   simp only [cond_false, Option.bind_some, orR]
   have hv2 := pick_lt p2 (by omega)
   refine ⟨_, _, _, rfl, ?_, q2, by first | omega | (simp only; omega)⟩
   unfold gOk
   simp only
   rw [decide_eq_true hxr.1, decide_eq_true (show x ≤ 8 by omega), decide_eq_true hv2.1, decide_eq_true (show v2 ≤ (n : Int) - 1 by omega)]
   rfl
theorem built_d (n : Nat) (hn : 1 ≤ n ∧ n ≤ 6) (most : Nat) (hm : most ≤ 100) (kinds : List Int) (hk : 1 ≤ kinds.length ∧ kinds.length ≤ 1000) (hr : ∀ x ∈ kinds, 1 ≤ x ∧ x ≤ 12) : Dr (fun c => F_spec_l1Cur_built c (n : Int) (most : Int) kinds) (fun c => c.Qubits = (n : Int) ∧ c.Gates.length ≤ most ∧ c.Gates.all (gOk n) = true) 1000 := fun code a s k hb h0 h1 h2 => by
 unfold F_spec_l1Cur_built
 simp only
 rw [wrap_i64 (a := (most : Int) + 1) ⟨by omega, by omega⟩]
 obtain ⟨v1, a1, s1, e1, p1, q1, r1⟩ := pick_d ((most : Int) + 1) (by omega) code a s k hb h0 h1 (by omega)
 simp only at e1
 rw [e1]; simp only [Option.bind_some]
 have hv1 := pick_lt p1 (by omega)
 have hs := whX_inv (f := F_spec_l1Cur_built_l1 (Tl1Cur.mk code a s) (n : Int) kinds) (fun t => 0 ≤ t.2.2.2 ∧ 0 ≤ t.1 ∧ t.1 + 8 * t.2.2.2 ≤ ((k + 2 + 8 * most : Nat) : Int) ∧ (t.2.2.1.length : Int) + t.2.2.2 ≤ (most : Int) ∧ t.2.2.1.all (gOk n) = true) (fun t => 0 ≤ t.1 ∧ t.1 ≤ ((k + 2 + 8 * most : Nat) : Int) ∧ t.2.2.1.length ≤ most ∧ t.2.2.1.all (gOk n) = true) (fun _ : TCircuit × Tl1Cur => False) (fun t => t.2.2.2.toNat) (fun t ht => by
  obtain ⟨b1, z1, G, k_⟩ := t
  obtain ⟨t1, t2, t3, t4, t5⟩ := ht
  simp only at t1 t2 t3 t4 t5
  unfold F_spec_l1Cur_built_l1
  simp only
  by_cases hk0 : 0 < k_
  ·rw [decide_eq_true hk0]
   simp only [cond_true]
   obtain ⟨v2, a2, s2, e2, p2, q2, r2⟩ := gate_d n hn kinds hk hr code b1 z1 b1.toNat hb t2 (by omega) (by omega)
   simp only at e2
   rw [e2]; simp only [Option.bind_some]
   rw [chk_t (by omega), wrap_i64 (a := k_ - 1) ⟨by omega, by omega⟩]
   exact .inl ⟨_, rfl, ⟨by simp only; omega, q2, by simp only; omega, by simp only [List.length_append, List.length_singleton]; omega, by simp only [List.all_append, t5, List.all_cons, List.all_nil, p2, Bool.and_self]⟩, by simp only; omega⟩
  ·rw [decide_eq_false hk0]
   exact .inr (.inl ⟨_, rfl, t2, by simp only; omega, by simp only; omega, t5⟩)) fuel (a1, s1, [], v1) ⟨by simp only; omega, q1, by simp only; omega, by simp only [List.length_nil]; omega, rfl⟩ (fuelB (by simp only; omega))
 rcases hs with ⟨⟨b1, z1, G, k_⟩, w1, w2, w3, w4, w5⟩ | ⟨r, _, hr⟩
 ·rw [w1]
  simp only at w2 w3 w4 w5
  exact ⟨_, _, _, rfl, ⟨rfl, w4, w5⟩, w2, by first | omega | (simp only; omega)⟩
 ·exact hr.elim
def wR (x : TRing) : TRing := TRing.mk (-x.D) x.A x.B x.C
def turnR : TRing → Nat → TRing
 | x, 0 => x
 | x, k + 1 => turnR (wR x) k
theorem w_ok {x : TRing} (h : rOk x = true) : rOk (wR x) = true := by
 rw [rOk_iff] at h ⊢
 unfold wR
 simp only
 omega
theorem turn_okR : ∀ (k : Nat) {x : TRing}, rOk x = true → rOk (turnR x k) = true
 | 0, _, h => h
 | k + 1, _, h => turn_okR k (w_ok h)
theorem w_even {x : TRing} (h : rOk x = true) : rEven (wR x) = rEven x := by
 rw [rOk_iff] at h
 unfold rEven wR
 simp only
 rw [wr (a := -x.D + x.B) (by omega), wr (a := x.A + x.C) (by omega), wr (a := x.B + x.D) (by omega), tm2, tm2, tm2, Bool.and_comm]
 congr 1
 rw [Bool.eq_iff_iff, decide_eq_true_eq, decide_eq_true_eq]
 omega
theorem turn_even : ∀ (k : Nat) {x : TRing}, rOk x = true → rEven (turnR x k) = rEven x
 | 0, _, _ => rfl
 | k + 1, _, h => by show rEven (turnR (wR _) k) = _; rw [turn_even k (w_ok h), w_even h]
def tw (k : Nat) (x : TDyadic) : TDyadic := TDyadic.mk (turnR x.Num k) x.Exp
theorem tw_ok {k : Nat} {x : TDyadic} (h : dOk x = true) : dOk (tw k x) = true := by
 have hr := (d_parts h).1
 have h1 := turn_okR k hr
 have h2 := turn_even k hr
 unfold dOk at h ⊢
 unfold tw
 simp only
 rw [h1, h2]
 rw [hr] at h
 exact h
theorem mod8_small : ∀ k : Fin 8, Int.tmod (IntKind.i64.wrap ((Int.tmod (k.val : Int) 8) + 8)) 8 = (k.val : Int) := by decide
def nR (x : TRing) : Int := x.A * x.A + x.B * x.B + x.C * x.C + x.D * x.D
theorem nR_root (x : TRing) : nR (rRoot x) = 2 * nR x := by
 unfold nR rRoot; simp only; grind
theorem nR_it : ∀ (k : Nat) (x : TRing), nR (rIt k x) = 2 ^ k * nR x
 | 0, x => by show nR x = _; simp
 | k + 1, x => by
  show nR (rIt k (rRoot x)) = _
  rw [nR_it k, nR_root, Int.pow_succ]; grind
theorem nR_nn (x : TRing) : 0 ≤ nR x := by
 have a := sq_nonneg x.A
 have b := sq_nonneg x.B
 have c := sq_nonneg x.C
 have d := sq_nonneg x.D
 unfold nR; omega
theorem nR_plus (x y : TRing) : nR (rPlus x y) ≤ 2 * (nR x + nR y) := by
 have a := sq_nonneg (x.A - y.A)
 have b := sq_nonneg (x.B - y.B)
 have c := sq_nonneg (x.C - y.C)
 have d := sq_nonneg (x.D - y.D)
 unfold nR rPlus; simp only; grind
theorem dot4 (a b c d e f g h : Int) : (a * e + b * f + c * g + d * h) * (a * e + b * f + c * g + d * h) ≤ (a * a + b * b + c * c + d * d) * (e * e + f * f + g * g + h * h) := by
 have h1 := sq_nonneg (a * f - b * e)
 have h2 := sq_nonneg (a * g - c * e)
 have h3 := sq_nonneg (a * h - d * e)
 have h4 := sq_nonneg (b * g - c * f)
 have h5 := sq_nonneg (b * h - d * f)
 have h6 := sq_nonneg (c * h - d * g)
 have e1 : (a * a + b * b + c * c + d * d) * (e * e + f * f + g * g + h * h) - (a * e + b * f + c * g + d * h) * (a * e + b * f + c * g + d * h) = (a * f - b * e) * (a * f - b * e) + (a * g - c * e) * (a * g - c * e) + (a * h - d * e) * (a * h - d * e) + (b * g - c * f) * (b * g - c * f) + (b * h - d * f) * (b * h - d * f) + (c * h - d * g) * (c * h - d * g) := by grind
 omega
theorem nR_mul (x y : TRing) : nR (eMul x y) ≤ 4 * (nR x * nR y) := by
 have h1 := dot4 x.A x.B x.C x.D y.A (-y.D) (-y.C) (-y.B)
 have h2 := dot4 x.A x.B x.C x.D y.B y.A (-y.D) (-y.C)
 have h3 := dot4 x.A x.B x.C x.D y.C y.B y.A (-y.D)
 have h4 := dot4 x.A x.B x.C x.D y.D y.C y.B y.A
 have k1 : x.A * y.A - x.B * y.D - x.C * y.C - x.D * y.B = x.A * y.A + x.B * -y.D + x.C * -y.C + x.D * -y.B := by grind
 have k2 : x.A * y.B + x.B * y.A - x.C * y.D - x.D * y.C = x.A * y.B + x.B * y.A + x.C * -y.D + x.D * -y.C := by grind
 have k3 : x.A * y.C + x.B * y.B + x.C * y.A - x.D * y.D = x.A * y.C + x.B * y.B + x.C * y.A + x.D * -y.D := by grind
 have n1 : (x.A * x.A + x.B * x.B + x.C * x.C + x.D * x.D) * (y.A * y.A + -y.D * -y.D + -y.C * -y.C + -y.B * -y.B) = nR x * nR y := by unfold nR; grind
 have n2 : (x.A * x.A + x.B * x.B + x.C * x.C + x.D * x.D) * (y.B * y.B + y.A * y.A + -y.D * -y.D + -y.C * -y.C) = nR x * nR y := by unfold nR; grind
 have n3 : (x.A * x.A + x.B * x.B + x.C * x.C + x.D * x.D) * (y.C * y.C + y.B * y.B + y.A * y.A + -y.D * -y.D) = nR x * nR y := by unfold nR; grind
 have n4 : (x.A * x.A + x.B * x.B + x.C * x.C + x.D * x.D) * (y.D * y.D + y.C * y.C + y.B * y.B + y.A * y.A) = nR x * nR y := by unfold nR; grind
 rw [n1] at h1; rw [n2] at h2; rw [n3] at h3; rw [n4] at h4
 rw [← k1] at h1; rw [← k2] at h2; rw [← k3] at h3
 unfold eMul
 show _ * _ + _ * _ + _ * _ + _ * _ ≤ _
 simp only
 omega
theorem nR_ok {x : TRing} (h : nR x < 1000000000000000000) : rOk x = true := by
 have a := sq_nonneg x.A
 have b := sq_nonneg x.B
 have c := sq_nonneg x.C
 have d := sq_nonneg x.D
 unfold nR at h
 have key : ∀ t : Int, t * t < 1000000000000000000 → -1000000000 ≤ t ∧ t ≤ 1000000000 := fun t ht => sq_le (N := t * t) (M := 1000000000) (by decide) (by omega) (by omega)
 rw [rOk_iff]
 exact ⟨⟨key _ (by omega), key _ (by omega)⟩, ⟨key _ (by omega), key _ (by omega)⟩⟩
/-- A number of exponent e at most, whose value's measure is K at most. -/
def Bd (e : Nat) (K : Int) (x : TDyadic) : Prop := dOk x = true ∧ x.Exp ≤ (e : Int) ∧ nR (vOf x) ≤ K * 2 ^ 60
theorem p2_le {m n : Nat} (h : m ≤ n) : (2 : Int) ^ m ≤ 2 ^ n := by
 have := Nat.pow_le_pow_right (show 0 < 2 by decide) h
 exact_mod_cast this
theorem p2_pos (m : Nat) : (0 : Int) < 2 ^ m := by
 have := Nat.pow_pos (n := m) (show 0 < 2 by decide)
 exact_mod_cast this
theorem bd_it {e : Nat} {K : Int} {x : TDyadic} (h : Bd e K x) (he : e ≤ 60) (hK : 0 ≤ K) {j : Nat} (hj : (j : Int) + x.Exp ≤ (e : Int)) : nR (rIt j x.Num) ≤ K * 2 ^ e := by
 obtain ⟨h1, h2, h3⟩ := h
 obtain ⟨x1, x2, x3⟩ := d_parts h1
 unfold vOf at h3
 rw [nR_it] at h3 ⊢
 generalize nR x.Num = n at h3 ⊢
 generalize x.Exp = E at *
 obtain ⟨f, rfl⟩ : ∃ f : Nat, E = f := ⟨E.toNat, by omega⟩
 rw [show (60 - (f : Int)).toNat = 60 - f by omega] at h3
 have p1 : (2 : Int) ^ 60 = 2 ^ (60 - f) * 2 ^ f := by rw [← Int.pow_add]; congr 1; omega
 rw [p1] at h3
 have hn : n ≤ K * 2 ^ f := Int.le_of_mul_le_mul_left (a := 2 ^ (60 - f)) (by rw [← Int.mul_assoc, Int.mul_comm _ K, Int.mul_assoc]; exact h3) (p2_pos _)
 have s1 : (2 : Int) ^ j * n ≤ 2 ^ j * (K * 2 ^ f) := Int.mul_le_mul_of_nonneg_left hn (Int.le_of_lt (p2_pos j))
 have s2 : (2 : Int) ^ j * (K * 2 ^ f) = K * 2 ^ (j + f) := by rw [Int.pow_add]; grind
 have s3 : K * 2 ^ (j + f) ≤ K * 2 ^ e := Int.mul_le_mul_of_nonneg_left (p2_le (by omega)) hK
 omega
theorem DM_bd {e e' : Nat} {K K' : Int} {x y : TDyadic} (hx : Bd e K x) (hy : Bd e' K' y) (he : e + e' ≤ 60) (hK : 0 ≤ K) (hK' : 0 ≤ K') (hc : 4 * ((K * 2 ^ e) * (K' * 2 ^ e')) < 1000000000000000000) : ∃ z, DM x y = some z ∧ Bd (e + e') (4 * (K * K')) z := by
 have bx := bd_it hx (by omega) hK (j := 0) (by have := hx.2.1; omega)
 have b_y := bd_it hy (by omega) hK' (j := 0) (by have := hy.2.1; omega)
 have bx : nR x.Num ≤ K * 2 ^ e := bx
 have b_y : nR y.Num ≤ K' * 2 ^ e' := b_y
 obtain ⟨x1, x2, x3⟩ := d_parts hx.1
 obtain ⟨y1, y2, y3⟩ := d_parts hy.1
 have ex := hx.2.1
 have ey := hy.2.1
 have hmul := mul_exact x1 y1
 have hr : rOk (rMul x.Num y.Num) = true := by
  rw [hmul]
  refine nR_ok ?_
  have m1 := nR_mul x.Num y.Num
  have m2 : nR x.Num * nR y.Num ≤ (K * 2 ^ e) * (K' * 2 ^ e') := Int.mul_le_mul bx b_y (nR_nn _) (Int.mul_nonneg hK (Int.le_of_lt (p2_pos _)))
  omega
 have hw : IntKind.i64.wrap (x.Exp + y.Exp) = x.Exp + y.Exp := wr (by omega)
 obtain ⟨z, hz1, hz2, hz3⟩ := low_both hr (e := x.Exp + y.Exp) ⟨by omega, by omega⟩
 have hD : DM x y = some z := by
  unfold DM F_impl_MulDyadic
  rw [impl_rmul x1 y1, hr]
  simp only [Option.bind_some, impl_dyadic, hx.1, hy.1, gb, Bool.not_true, Bool.not_false, cond_true, Bool.false_or, hw, if_true, cond_false, hz2, Bool.or_self]
 refine ⟨z, hD, hz3, ?_, ?_⟩
 ·have := (low_val hr (e := x.Exp + y.Exp) ⟨by omega, by omega⟩ hz2).2.1
  omega
 ·have hv := congrArg nR (v_mul hx.1 hy.1 hD)
  rw [nR_it] at hv
  have m1 := nR_mul (vOf x) (vOf y)
  have m2 : nR (vOf x) * nR (vOf y) ≤ (K * 2 ^ 60) * (K' * 2 ^ 60) := Int.mul_le_mul hx.2.2 hy.2.2 (nR_nn _) (Int.mul_nonneg hK (by decide))
  have m3 : 4 * ((K * 2 ^ 60) * (K' * 2 ^ 60)) = 2 ^ 60 * (4 * (K * K') * 2 ^ 60) := by grind
  refine Int.le_of_mul_le_mul_left (a := 2 ^ 60) ?_ (by decide)
  rw [hv]; omega
theorem DA_bd {e : Nat} {K K' : Int} {x y : TDyadic} (hx : Bd e K x) (hy : Bd e K' y) (he : e ≤ 60) (hK : 0 ≤ K) (hK' : 0 ≤ K') (hc : 2 * (K * 2 ^ e + K' * 2 ^ e) < 1000000000000000000) : ∃ z, DA x y = some z ∧ Bd e (2 * (K + K')) z := by
 obtain ⟨x1, x2, x3⟩ := d_parts hx.1
 obtain ⟨y1, y2, y3⟩ := d_parts hy.1
 have ex := hx.2.1
 have ey := hy.2.1
 have k1 : 0 ≤ K * 2 ^ e := Int.mul_nonneg hK (Int.le_of_lt (p2_pos _))
 have k2 : 0 ≤ K' * 2 ^ e := Int.mul_nonneg hK' (Int.le_of_lt (p2_pos _))
 generalize hE : (if x.Exp < y.Exp then y.Exp else x.Exp) = E
 have b1 : x.Exp ≤ E := by rw [← hE]; split <;> omega
 have b2 : y.Exp ≤ E := by rw [← hE]; split <;> omega
 have b3 : E ≤ (e : Int) := by rw [← hE]; split <;> omega
 have rx : ∀ j : Nat, j ≤ (E - x.Exp).toNat → nR (rIt j x.Num) ≤ K * 2 ^ e := fun j hj => bd_it hx he hK (by omega)
 have ry : ∀ j : Nat, j ≤ (E - y.Exp).toNat → nR (rIt j y.Num) ≤ K' * 2 ^ e := fun j hj => bd_it hy he hK' (by omega)
 obtain ⟨a, oa, a1, a2, a3, a4⟩ := raised_some hx.1 b1 (by omega)
 obtain ⟨c, oc, c1, c2, c3, c4⟩ := raised_some hy.1 b2 (by omega)
 obtain rfl : oa = true := a4 fun j hj => nR_ok (by have := rx j hj; omega)
 obtain rfl : oc = true := c4 fun j hj => nR_ok (by have := ry j hj; omega)
 have hcb := comb_add hx.1 hy.1 hE a1 c1 a2 c2
 have hadd : rAdd a c = rPlus a c := by
  rw [rOk_iff] at a2 c2
  show TRing.mk (IntKind.i64.wrap (a.A + c.A)) (IntKind.i64.wrap (a.B + c.B)) (IntKind.i64.wrap (a.C + c.C)) (IntKind.i64.wrap (a.D + c.D)) = _
  rw [wr (a := a.A + c.A) (by omega), wr (a := a.B + c.B) (by omega), wr (a := a.C + c.C) (by omega), wr (a := a.D + c.D) (by omega)]
  rfl
 have hr : rOk (rAdd a c) = true := by
  rw [hadd, a3 rfl, c3 rfl]
  refine nR_ok ?_
  have m1 := nR_plus (rIt (E - x.Exp).toNat x.Num) (rIt (E - y.Exp).toNat y.Num)
  have m2 := rx _ (Nat.le_refl _)
  have m3 := ry _ (Nat.le_refl _)
  omega
 obtain ⟨z, hz1, hz2, hz3⟩ := low_both hr (e := E) ⟨by omega, by omega⟩
 have hD : DA x y = some z := by
  unfold DA
  rw [hcb, hr]
  simp only [Bool.and_self, cond_true, hz2, Option.bind_some, if_true]
 refine ⟨z, hD, hz3, ?_, ?_⟩
 ·have := (low_val hr (e := E) ⟨by omega, by omega⟩ hz2).2.1
  omega
 ·rw [da_val hx.1 hy.1 hD]
  have m1 := nR_plus (vOf x) (vOf y)
  have m2 := hx.2.2
  have m3 := hy.2.2
  have m4 : 2 * (K + K') * 2 ^ 60 = 2 * (K * 2 ^ 60 + K' * 2 ^ 60) := by grind
  omega

theorem Bd.mono {e f : Nat} {K L : Int} {x : TDyadic} (h : Bd e K x) (he : e ≤ f) (hK : K ≤ L) : Bd f L x := by
 obtain ⟨h1, h2, h3⟩ := h
 exact ⟨h1, by omega, by omega⟩
theorem bd_zero (e : Nat) {K : Int} (hK : 0 ≤ K) : Bd e K dZero := by
 refine ⟨dZero_ok, by show (0 : Int) ≤ e; omega, ?_⟩
 rw [show vOf dZero = rZero from v_dz']
 show (0 : Int) ≤ _
 omega
theorem aSq_A (x : TRing) : (aSq x x).A = nR x := by
 unfold aSq eMul rConj nR; simp only; grind
def rNg (x : TRing) : TRing := TRing.mk (-x.A) (-x.B) (-x.C) (-x.D)
def dNeg (x : TDyadic) : TDyadic := TDyadic.mk (rNg x.Num) x.Exp
theorem neg_ok (x : TRing) : rOk (rNg x) = rOk x := by
 rw [Bool.eq_iff_iff, rOk_iff, rOk_iff]
 unfold rNg
 simp only
 omega
theorem neg_root (x : TRing) : rRoot (rNg x) = rNg (rRoot x) := by
 unfold rRoot rNg
 simp only [TRing.mk.injEq]
 omega
theorem spec_neg {y : TDyadic} (h : rOk y.Num = true) : F_spec_l2Neg y = some (dNeg y) := by
 rw [rOk_iff] at h
 unfold F_spec_l2Neg F_spec_l1Neg
 rw [wr (a := -y.Num.A) (by omega), wr (a := -y.Num.B) (by omega), wr (a := -y.Num.C) (by omega), wr (a := -y.Num.D) (by omega)]
 rfl
theorem tmod_neg2 (a : Int) : (Int.tmod (-a) 2 == 0) = (Int.tmod a 2 == 0) := by
 rw [Int.neg_tmod, Bool.eq_iff_iff]
 simp
theorem neg_even {x : TRing} (h : rOk x = true) : rEven (rNg x) = rEven x := by
 rw [rOk_iff] at h
 unfold rEven rNg
 simp only
 rw [wr (a := -x.A + -x.C) (by omega), wr (a := -x.B + -x.D) (by omega), wr (a := x.A + x.C) (by omega), wr (a := x.B + x.D) (by omega),
  show -x.A + -x.C = -(x.A + x.C) by omega, show -x.B + -x.D = -(x.B + x.D) by omega, tmod_neg2, tmod_neg2]
theorem neg_dok {y : TDyadic} (h : dOk y = true) : dOk (dNeg y) = true := by
 have hr := (d_parts h).1
 unfold dOk at h ⊢
 unfold dNeg
 simp only [neg_ok, neg_even hr]
 exact h
def bR (x : TRing) : Prop := nR x ≤ 1073741824
theorem bR_c {x : TRing} (h : bR x) : ((-40000 ≤ x.A ∧ x.A ≤ 40000) ∧ (-40000 ≤ x.B ∧ x.B ≤ 40000)) ∧ ((-40000 ≤ x.C ∧ x.C ≤ 40000) ∧ (-40000 ≤ x.D ∧ x.D ≤ 40000)) := by
 have a := sq_nonneg x.A
 have b := sq_nonneg x.B
 have c := sq_nonneg x.C
 have d := sq_nonneg x.D
 unfold bR nR at h
 have key : ∀ t : Int, t * t ≤ 1073741824 → -40000 ≤ t ∧ t ≤ 40000 := fun t ht => sq_le (N := t * t) (M := 40000) (by decide) (by omega) (by omega)
 exact ⟨⟨key _ (by omega), key _ (by omega)⟩, ⟨key _ (by omega), key _ (by omega)⟩⟩
theorem bR_ok {x : TRing} (h : bR x) : rOk x = true := by
 have := bR_c h
 rw [rOk_iff]; omega
def tyI (x : TRing) : Int := if (2 : Int) ∣ x.A + x.C ∧ (2 : Int) ∣ x.B + x.D then 0 else if (2 : Int) ∣ x.A + x.B + x.C + x.D then 2 else 1
theorem ev_bR {x : TRing} (h : bR x) : rEven x = decide ((2 : Int) ∣ x.A + x.C ∧ (2 : Int) ∣ x.B + x.D) := by
 have := bR_c h
 unfold rEven
 rw [wr (by omega), wr (by omega), tm2, tm2, Bool.decide_and]
theorem ty_impl {x : TRing} (h : bR x) : F_impl_ResidueType x = some (tyI x, true) := by
 have hc := bR_c h
 unfold F_impl_ResidueType tyI
 rw [impl_ring, bR_ok h, impl_even, ev_bR h, wr (a := x.A + x.B) (by omega), wr (a := x.A + x.B + x.C) (by omega), wr (a := x.A + x.B + x.C + x.D) (by omega)]
 have : (Int.tmod (x.A + x.B + x.C + x.D) 2 != 0) = !decide ((2 : Int) ∣ x.A + x.B + x.C + x.D) := by rw [← tm2]; rfl
 rw [this]
 simp only [Option.bind_some, Bool.not_true, cond_false]
 by_cases h1 : (2 : Int) ∣ x.A + x.C ∧ (2 : Int) ∣ x.B + x.D
 ·rw [decide_eq_true h1, if_pos h1]; rfl
 ·rw [decide_eq_false h1, if_neg h1]
  by_cases h2 : (2 : Int) ∣ x.A + x.B + x.C + x.D
  ·rw [if_pos h2, decide_eq_true h2]; rfl
  ·rw [if_neg h2, decide_eq_false h2]; rfl
def isT (l : List TRing) (t : Int) (i : Nat) : Bool := match l[i]? with | some x => tyI x == t | none => false
def idxT (l : List TRing) (t : Int) (n : Nat) : List Nat := (List.range n).filter (isT l t)
theorem idx_succ (l : List TRing) (t : Int) (n : Nat) : idxT l t (n + 1) = idxT l t n ++ (if isT l t n then [n] else []) := by
 unfold idxT
 rw [List.range_succ, List.filter_append]
 congr 1
 by_cases h : isT l t n <;> simp [h]
def pairL (l : List TRing) (t : Int) : Option (Nat × Nat) := match idxT l t l.length with | a :: b :: _ => some (a, b) | _ => none
def pairR (o : Option (Nat × Nat)) : Int × Int × Bool := match o with | some (a, b) => ((a : Int), (b : Int), true) | none => (0, 0, false)
def nextL (l : List TRing) : Option (Nat × Nat) := match pairL l 1 with | some p => some p | none => pairL l 2
theorem rows_impl {l : List TRing} (hl : ∀ x ∈ l, bR x) (hn : l.length ≤ 100) (t : Int) : forN (F_impl_nextPair_l2 l t) l.length 0 [] = some ((idxT l t l.length).map fun (i : Nat) => (i : Int)) := by
 obtain ⟨z, h1, h2⟩ := forN_inv (f := F_impl_nextPair_l2 l t) (fun i rows => rows = (idxT l t i).map fun (i : Nat) => (i : Int)) l.length 0 [] rfl (fun i s _ hi hI => by
  subst hI
  have hx := List.getElem?_eq_getElem (show i < l.length by omega)
  have hb := hl _ (List.mem_of_getElem? hx)
  have hT : isT l t i = (tyI l[i] == t) := by unfold isT; rw [hx]
  have hlen : (idxT l t i).length ≤ i := by
   unfold idxT
   exact Nat.le_trans (List.length_filter_le _ _) (by simp)
  unfold F_impl_nextPair_l2
  rw [getI_nat, hx]
  simp only [Option.bind_some]
  rw [ty_impl hb]
  simp only [Option.bind_some]
  have hsu := idx_succ l t i
  cases h : (tyI l[i] == t) with
  | false =>
   rw [hT, h] at hsu
   simp only [Bool.false_eq_true, if_false, List.append_nil] at hsu
   exact ⟨_, rfl, by rw [hsu]⟩
  | true =>
   rw [hT, h] at hsu
   simp only [if_true] at hsu
   simp only [cond_true]
   rw [chk_t (by simp; omega)]
   exact ⟨_, rfl, by rw [hsu, List.map_append]; rfl⟩)
 rw [Nat.zero_add] at h2
 rw [h1, h2]
theorem whX_nx3 {σ ρ : Type} {f : σ → Option (Ex σ ρ)} {k : Nat} {s s' : σ} (h : f s = some (.nx s')) : whX f (k + 1) s = whX f k s' := by simp only [whX, h, Option.bind_some]
theorem whX_rt3 {σ ρ : Type} {f : σ → Option (Ex σ ρ)} {k : Nat} {s : σ} {r : ρ} (h : f s = some (.rt r)) : whX f (k + 1) s = some (.inr r) := by simp only [whX, h, Option.bind_some]
theorem whX_br3 {σ ρ : Type} {f : σ → Option (Ex σ ρ)} {k : Nat} {s s' : σ} (h : f s = some (.br s')) : whX f (k + 1) s = some (.inl s') := by simp only [whX, h, Option.bind_some]
theorem fuel3 : ∃ k, fuel = k + 1 + 1 + 1 := ⟨18446744073709551613, rfl⟩
theorem next_round {l : List TRing} (hl : ∀ x ∈ l, bR x) (hn : l.length ≤ 100) {t : Int} (ht : 1 ≤ t ∧ t ≤ 2) : F_impl_nextPair_l1 l t = some (match pairL l t with | some (a, b) => .rt ((a : Int), (b : Int), true) | none => .nx (t + 1)) := by
 unfold F_impl_nextPair_l1
 rw [decide_eq_true ht.2, wr (a := t + 1) (by omega), chk_t (by omega), rows_impl hl hn t]
 simp only [cond_true, Option.bind_some]
 unfold pairL
 match idxT l t l.length with
 | [] => rfl
 | [a] => rfl
 | a :: b :: r =>
  simp only [List.map_cons]
  rw [decide_eq_true (by simp only [List.length_cons]; omega)]
  rfl
theorem next_some {l : List TRing} (hl : ∀ x ∈ l, bR x) (hn : l.length ≤ 100) {t : Int} (ht : 1 ≤ t ∧ t ≤ 2) {p : Nat × Nat} (h : pairL l t = some p) : F_impl_nextPair_l1 l t = some (.rt (pairR (some p))) := by
 rw [next_round hl hn ht, h]; rfl
theorem next_none {l : List TRing} (hl : ∀ x ∈ l, bR x) (hn : l.length ≤ 100) {t : Int} (ht : 1 ≤ t ∧ t ≤ 2) (h : pairL l t = none) : F_impl_nextPair_l1 l t = some (.nx (t + 1)) := by
 rw [next_round hl hn ht, h]
theorem next_end (l : List TRing) : F_impl_nextPair_l1 l (1 + 1 + 1) = some (.br 3) := rfl
theorem next_impl {l : List TRing} (hl : ∀ x ∈ l, bR x) (hn : l.length ≤ 100) : F_impl_nextPair l = some (pairR (nextL l)) := by
 unfold F_impl_nextPair nextL
 obtain ⟨k, hk⟩ := fuel3
 rw [hk]
 cases h1 : pairL l 1 with
 | some p => rw [whX_rt3 (next_some hl hn (by decide) h1)]; rfl
 | none =>
  rw [whX_nx3 (next_none hl hn (by decide) h1)]
  cases h2 : pairL l 2 with
  | some p => rw [whX_rt3 (next_some hl hn (t := 1 + 1) (by decide) (show pairL l (1 + 1) = some p from h2))]; rfl
  | none =>
   rw [whX_nx3 (next_none hl hn (t := 1 + 1) (by decide) (show pairL l (1 + 1) = none from h2)), whX_br3 (next_end l)]
   rfl
def sumT (x y : TRing) (m : Nat) : TRing := rPlus x (turnR y m)
def alE (s : TRing) : Bool := decide ((2 : Int) ∣ s.A) && decide ((2 : Int) ∣ s.B) && decide ((2 : Int) ∣ s.C) && decide ((2 : Int) ∣ s.D)
def alO (s : TRing) : Bool := !decide ((2 : Int) ∣ s.A) && !decide ((2 : Int) ∣ s.B) && !decide ((2 : Int) ∣ s.C) && !decide ((2 : Int) ∣ s.D)
def pwB (x y : TRing) (m : Nat) : Bool := alE (sumT x y m) || (alO (sumT x y m) && (tyI x == 1))
def pwL (x y : TRing) : Option Nat := (List.range' 0 8).find? (pwB x y)
theorem bR_turn : ∀ (m : Nat) {x : TRing}, bR x → bR (turnR x m)
 | 0, _, h => h
 | m + 1, x, h => by
  show bR (turnR (wR x) m)
  refine bR_turn m ?_
  have e : nR (wR x) = nR x := by
   unfold nR wR
   show -x.D * -x.D + x.A * x.A + x.B * x.B + x.C * x.C = _
   rw [Int.neg_mul_neg]; omega
  unfold bR at *
  rw [e]; exact h
theorem forX_fnd {ρ : Type} {f : Nat → Unit → Option (Ex Unit ρ)} (p : Nat → Bool) (g : Nat → ρ) : ∀ n i, (∀ j, i ≤ j → j < i + n → f j () = some (bif p j then .rt (g j) else .nx ())) →
  forX f n i () = some (match (List.range' i n).find? p with | some j => .inr (g j) | none => .inl ())
 | 0, i, _ => rfl
 | n + 1, i, h => by
  rw [forX, h i (Nat.le_refl i) (by omega), List.range'_succ, List.find?_cons]
  cases hp : p i with
  | true => rfl
  | false => exact forX_fnd p g n (i + 1) (fun j h1 h2 => h j (by omega) (by omega))
theorem if01 (n : Int) : (if (2 : Int) ∣ n then (0 : Int) else 1) = 0 ∧ (2 : Int) ∣ n ∨ (if (2 : Int) ∣ n then (0 : Int) else 1) = 1 ∧ ¬ (2 : Int) ∣ n := by
 by_cases h : (2 : Int) ∣ n
 ·exact .inl ⟨if_pos h, h⟩
 ·exact .inr ⟨if_neg h, h⟩
theorem om_impl {y : TRing} (hy : bR y) {m : Nat} (hm : m < 8) : F_impl_MulOmega y (m : Int) = some (turnR y m, true) := by
 have key : ∀ (k i : Nat) (z : TRing), bR z → forN F_impl_MulOmega_l1 k i (z.A, z.B, z.C, z.D) = some ((turnR z k).A, (turnR z k).B, (turnR z k).C, (turnR z k).D) := by
  intro k
  induction k with
  | zero => intro i z _; rfl
  | succ k ih =>
   intro i z hz
   have hc := bR_c hz
   have e : F_impl_MulOmega_l1 i (z.A, z.B, z.C, z.D) = some (-z.D, z.A, z.B, z.C) := by
    unfold F_impl_MulOmega_l1
    simp only
    rw [wr (a := -z.D) (by omega)]
   show (F_impl_MulOmega_l1 i (z.A, z.B, z.C, z.D)).bind _ = _
   rw [e]
   exact ih (i + 1) (wR z) (bR_turn 1 hz)
 unfold F_impl_MulOmega F_impl_within
 rw [impl_ring, bR_ok hy, decide_eq_true (show (-1000 : Int) ≤ (m : Int) by omega), decide_eq_true (show (m : Int) ≤ 1000 by omega)]
 have h8 := mod8_small ⟨m, hm⟩
 simp only at h8
 simp only [Option.bind_some, Bool.and_self, Bool.not_true, Bool.not_false, gb, cond_true, Bool.or_self, cond_false]
 rw [h8, Int.toNat_natCast, chk_t (by omega), key m 0 y hy]
 rfl
theorem and_one {a : Int} (h : -2000000000 ≤ a ∧ a ≤ 2000000000) : bits .and .i64 a 1 = a % 2 := by
 have : bits .and .i64 a 1 = IntKind.i64.wrap ((BitVec.ofInt 64 a &&& 1#64).toNat : Int) := rfl
 rw [this, BitVec.toNat_and]
 have e1 : (1#64).toNat = 1 := by decide
 rw [e1, Nat.and_one_is_mod, BitVec.toNat_ofInt]
 rw [wrap_i64 ⟨by omega, by omega⟩]
 omega
theorem and1 (n : Int) (h : -200000 ≤ n ∧ n ≤ 200000) : bits .and .i64 n 1 = if (2 : Int) ∣ n then 0 else 1 := by
 rw [and_one (by omega)]
 by_cases h : (2 : Int) ∣ n
 ·rw [if_pos h]; omega
 ·rw [if_neg h]; omega

theorem par_impl {s : TRing} (h : ((-200000 ≤ s.A ∧ s.A ≤ 200000) ∧ (-200000 ≤ s.B ∧ s.B ≤ 200000)) ∧ ((-200000 ≤ s.C ∧ s.C ≤ 200000) ∧ (-200000 ≤ s.D ∧ s.D ≤ 200000))) : F_impl_parities s = some (alE s, alO s) := by
 unfold F_impl_parities alE alO
 rw [and1 s.A h.1.1, and1 s.B h.1.2, and1 s.C h.2.1, and1 s.D h.2.2]
 rcases if01 s.A with ⟨a1, a2⟩ | ⟨a1, a2⟩ <;> rcases if01 s.B with ⟨b1, b2⟩ | ⟨b1, b2⟩ <;> rcases if01 s.C with ⟨c1, c2⟩ | ⟨c1, c2⟩ <;> rcases if01 s.D with ⟨d1, d2⟩ | ⟨d1, d2⟩ <;>
  rw [a1, b1, c1, d1] <;> simp only [a2, b2, c2, d2, decide_true, decide_false] <;> rfl
theorem mp_impl {x y : TRing} (hx : bR x) (hy : bR y) (h : tyI x = tyI y) (h0 : tyI x ≠ 0) : F_impl_MatchingPower x y = some (match pwL x y with | some m => ((m : Int), true) | none => (0, false)) := by
 unfold F_impl_MatchingPower
 rw [ty_impl hx, ty_impl hy]
 simp only [Option.bind_some, Bool.not_true, Bool.or_self, Bool.false_or]
 rw [show (tyI x != tyI y) = false by rw [h]; exact bne_self_eq_false _, show (tyI x == 0) = false from beq_false_of_ne h0]
 simp only [Bool.or_self, cond_false]
 rw [forX_fnd (pwB x y) (fun m => ((m : Int), true)) 8 0 (fun m _ hm => by
  unfold F_impl_MatchingPower_l1
  rw [om_impl hy (show m < 8 by omega)]
  simp only [Option.bind_some]
  have hc := bR_c hx
  have ht := bR_c (bR_turn m hy)
  rw [wr (a := x.A + (turnR y m).A) (by omega), wr (a := x.B + (turnR y m).B) (by omega), wr (a := x.C + (turnR y m).C) (by omega), wr (a := x.D + (turnR y m).D) (by omega)]
  rw [show TRing.mk (x.A + (turnR y m).A) (x.B + (turnR y m).B) (x.C + (turnR y m).C) (x.D + (turnR y m).D) = sumT x y m from rfl, par_impl (by
   show ((-200000 ≤ x.A + (turnR y m).A ∧ x.A + (turnR y m).A ≤ 200000) ∧ (-200000 ≤ x.B + (turnR y m).B ∧ x.B + (turnR y m).B ≤ 200000)) ∧ ((-200000 ≤ x.C + (turnR y m).C ∧ x.C + (turnR y m).C ≤ 200000) ∧ (-200000 ≤ x.D + (turnR y m).D ∧ x.D + (turnR y m).D ≤ 200000))
   omega)]
  simp only [Option.bind_some]
  unfold pwB
  cases alE (sumT x y m) || (alO (sumT x y m) && (tyI x == 1)) <;> rfl)]
 unfold pwL
 cases (List.range' 0 8).find? (pwB x y) with
 | none => rfl
 | some m => rfl
def e2 (n : Int) : Bool := decide ((2 : Int) ∣ n)
theorem e2_add (a b : Int) : e2 (a + b) = (e2 a == e2 b) := by
 unfold e2
 rw [Bool.eq_iff_iff]
 simp only [decide_eq_true_eq, beq_iff_eq, decide_eq_decide]
 omega
theorem e2_neg (a : Int) : e2 (-a) = e2 a := by unfold e2; rw [decide_eq_decide]; omega
def tyP (a b c d : Bool) : Int := if (a == c) && (b == d) then 0 else if ((a == b) == c) == d then 2 else 1
theorem ty_par (x : TRing) : tyI x = tyP (e2 x.A) (e2 x.B) (e2 x.C) (e2 x.D) := by
 unfold tyI tyP
 rw [← e2_add, ← e2_add, ← e2_add, ← e2_add, ← e2_add]
 unfold e2
 simp only [Bool.and_eq_true, decide_eq_true_eq]
def pwP (a b c d p q r s : Bool) : Bool := ((a == p) && (b == q) && (c == r) && (d == s)) || ((!(a == p) && !(b == q) && !(c == r) && !(d == s)) && (tyP a b c d == 1))
theorem pw_par (x z : TRing) : (alE (rPlus x z) || (alO (rPlus x z) && (tyI x == 1))) = pwP (e2 x.A) (e2 x.B) (e2 x.C) (e2 x.D) (e2 z.A) (e2 z.B) (e2 z.C) (e2 z.D) := by
 unfold pwP alE alO rPlus
 rw [ty_par, ← e2_add, ← e2_add, ← e2_add, ← e2_add]
 rfl
end Go.VK
