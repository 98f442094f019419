/- The plain law of FnCliffordWords: what its Lean function answers, for all arguments. -/
import Derived.Test.YtchihdcajdocgaaGreatDoorLCliffordWordsFn
import Derived.Test.YtchihdcajdocgaaGreatDoorLibI
set_option maxRecDepth 10000
set_option maxHeartbeats 1000000
set_option linter.unusedSimpArgs false
set_option linter.unusedVariables false
namespace Go.VK
theorem whX_inv {σ ρ : Type} {f : σ → Option (Ex σ ρ)} (I : σ → Prop) (Q : σ → Prop) (Qr : ρ → Prop) (m : σ → Nat)
    (h : ∀ s, I s → (∃ s', f s = some (.nx s') ∧ I s' ∧ m s' < m s) ∨ (∃ s', f s = some (.br s') ∧ Q s') ∨ ∃ r, f s = some (.rt r) ∧ Qr r) :
    ∀ (k : Nat) (s : σ), I s → m s < k → (∃ s', whX f k s = some (.inl s') ∧ Q s') ∨ ∃ r, whX f k s = some (.inr r) ∧ Qr r
  | 0, _, _, hm => absurd hm (Nat.not_lt_zero _)
  | k + 1, s, hI, hm => by
    rcases h s hI with ⟨s', h1, h2, h3⟩ | ⟨s', h1, h2⟩ | ⟨r, h1, h2⟩
    · rcases whX_inv I Q Qr m h k s' h2 (by omega) with ⟨s'', h4, h5⟩ | ⟨r, h4, h5⟩
      · exact .inl ⟨s'', by simp only [whX, h1, Option.bind_some]; exact h4, h5⟩
      · exact .inr ⟨r, by simp only [whX, h1, Option.bind_some]; exact h4, h5⟩
    · exact .inl ⟨s', by simp only [whX, h1, Option.bind_some], h2⟩
    · exact .inr ⟨r, by simp only [whX, h1, Option.bind_some], h2⟩
/-- Two loops in step that both end by themselves. -/
theorem whX2_inv {σ ρ ρ' : Type} {f : σ → Option (Ex σ ρ)} {g : σ → Option (Ex σ ρ')} (I : σ → Prop) (Q : σ → Prop) (m : σ → Nat)
    (h : ∀ s, I s → (∃ s', f s = some (.nx s') ∧ g s = some (.nx s') ∧ I s' ∧ m s' < m s) ∨ ∃ s', f s = some (.br s') ∧ g s = some (.br s') ∧ Q s') :
    ∀ (k : Nat) (s : σ), I s → m s < k → ∃ s', whX f k s = some (.inl s') ∧ whX g k s = some (.inl s') ∧ Q s'
  | 0, _, _, hm => absurd hm (Nat.not_lt_zero _)
  | k + 1, s, hI, hm => by
    rcases h s hI with ⟨s', h1, h1', h2, h3⟩ | ⟨s', h1, h1', h2⟩
    · obtain ⟨s'', h4, h4', h5⟩ := whX2_inv I Q m h k s' h2 (by omega)
      exact ⟨s'', by simp only [whX, h1, Option.bind_some]; exact h4, by simp only [whX, h1', Option.bind_some]; exact h4', h5⟩
    · exact ⟨s', by simp only [whX, h1, Option.bind_some], by simp only [whX, h1', Option.bind_some], h2⟩
theorem fuel_big {n : Nat} (h : n < 18446744073709551616) : n < fuel := h

/-- A coefficient that is taken. -/
def cfOk (n : Int) : Bool := decide (-1000000000 ≤ n) && decide (n ≤ 1000000000)
def rOk (x : TRing) : Bool := cfOk x.A && cfOk x.B && cfOk x.C && cfOk x.D
def rEven (x : TRing) : Bool := (Int.tmod (IntKind.i64.wrap (x.A + x.C)) 2 == 0) && (Int.tmod (IntKind.i64.wrap (x.B + x.D)) 2 == 0)
def dOk (x : TDyadic) : Bool := rOk x.Num && (decide (0 ≤ x.Exp) && decide (x.Exp ≤ 60)) && ((x.Exp == 0) || !rEven x.Num)
theorem cfOk_iff {n : Int} : cfOk n = true ↔ -1000000000 ≤ n ∧ n ≤ 1000000000 := by simp [cfOk]
theorem rOk_iff {x : TRing} : rOk x = true ↔ ((-1000000000 ≤ x.A ∧ x.A ≤ 1000000000) ∧ (-1000000000 ≤ x.B ∧ x.B ≤ 1000000000)) ∧ ((-1000000000 ≤ x.C ∧ x.C ≤ 1000000000) ∧ (-1000000000 ≤ x.D ∧ x.D ≤ 1000000000)) := by
  simp only [rOk, Bool.and_eq_true, cfOk_iff]
  constructor
  · rintro ⟨⟨⟨a, b⟩, c⟩, d⟩; exact ⟨⟨a, b⟩, c, d⟩
  · rintro ⟨⟨a, b⟩, c, d⟩; exact ⟨⟨⟨a, b⟩, c⟩, d⟩
theorem spec_ring (x : TRing) : F_spec_l1Good x = some (rOk x) := by
  unfold F_spec_l1Good F_spec_l1All
  rw [chk_t (by simp)]
  rcases forX_any (f := F_spec_l1All_l1 [x.A, x.B, x.C, x.D] (-1000000000) 1000000000) (l := [x.A, x.B, x.C, x.D]) (p := fun n => !cfOk n) (q := fun _ => false) (fun i y hy => by
    have e : F_spec_l1In y (-1000000000) 1000000000 = some (cfOk y) := rfl
    unfold F_spec_l1All_l1; simp only [getI_nat, hy, Option.bind_some, e]; cases cfOk y <;> rfl) with ⟨h1, h2⟩ | ⟨h1, i, _, h2⟩
  · rw [h2]; simp at h1; simp [orR, rOk, h1]
  · rw [h2]; simp only [Option.bind_some, orR]; congr 1; symm
    cases h : rOk x with
    | false => rfl
    | true => simp only [rOk, Bool.and_eq_true] at h; simp [h] at h1
theorem impl_coef (n : Int) : F_impl_isCoef n = some (cfOk n) := rfl
theorem impl_ring (x : TRing) : F_impl_IsValidRing x = some (rOk x) := by
  unfold F_impl_IsValidRing rOk
  simp only [impl_coef, Option.bind_some, gb]
  cases cfOk x.A <;> cases cfOk x.B <;> cases cfOk x.C <;> cases cfOk x.D <;> rfl
theorem spec_even (x : TRing) : F_spec_l1Even x = some (rEven x) := rfl
theorem impl_even (x : TRing) : F_impl_isEven x = some (rEven x) := rfl
theorem spec_dyadic (x : TDyadic) : F_spec_l2Good x = some (dOk x) := by
  unfold F_spec_l2Good F_spec_l1In dOk
  simp only [spec_ring, spec_even, Option.bind_some, gb]
  cases rOk x.Num <;> cases decide (0 ≤ x.Exp) && decide (x.Exp ≤ 60) <;> cases x.Exp == 0 <;> cases rEven x.Num <;> rfl
theorem impl_dyadic (x : TDyadic) : F_impl_IsValidDyadic x = some (dOk x) := by
  unfold F_impl_IsValidDyadic F_impl_within dOk
  simp only [impl_ring, impl_even, Option.bind_some, gb]
  cases rOk x.Num <;> cases decide (0 ≤ x.Exp) && decide (x.Exp ≤ 60) <;> cases x.Exp == 0 <;> cases rEven x.Num <;> rfl
def rZero : TRing := TRing.mk 0 0 0 0
def dZero : TDyadic := TDyadic.mk rZero 0
theorem ring_if (out : TRing) (args : List TRing) (hl : args.length ≤ 10) : F_impl_ringIf out args = some (if args.all rOk && rOk out then (out, true) else (rZero, false)) := by
  unfold F_impl_ringIf
  rw [chk_t (by omega), chk_t (by simp; omega)]
  rcases forX_any (f := F_impl_ringIf_l1 args out) (l := args ++ [out]) (p := fun x => !rOk x) (q := fun _ => (TRing.mk 0 0 0 0, false)) (fun i y hy => by
    unfold F_impl_ringIf_l1; simp only [getI_nat, hy, Option.bind_some, impl_ring]; cases rOk y <;> rfl) with ⟨h1, h2⟩ | ⟨h1, i, _, h2⟩
  · rw [h2]
    have : (args.all rOk && rOk out) = true := by
      simp only [List.any_append, List.any_cons, List.any_nil, Bool.or_false, Bool.or_eq_false_iff] at h1
      simp only [Bool.and_eq_true, List.all_eq_true]
      exact ⟨fun x hx => by have := List.any_eq_false.1 h1.1 x hx; simpa using this, by simpa using h1.2⟩
    rw [this]; rfl
  · rw [h2]
    have : (args.all rOk && rOk out) = false := by
      simp only [List.any_append, List.any_cons, List.any_nil, Bool.or_false, Bool.or_eq_true] at h1
      rcases h1 with h | h
      · obtain ⟨x, hx, hp⟩ := List.any_eq_true.1 h
        have : args.all rOk = false := by rw [List.all_eq_false]; exact ⟨x, hx, by simpa using hp⟩
        rw [this]; rfl
      · simp at h; rw [h]; simp
    rw [this]; rfl

def rHalf (x : TRing) : TRing := TRing.mk (Int.tdiv (x.B - x.D) 2) (Int.tdiv (x.A + x.C) 2) (Int.tdiv (x.B + x.D) 2) (Int.tdiv (x.C - x.A) 2)
def rRoot (x : TRing) : TRing := TRing.mk (x.B - x.D) (x.A + x.C) (x.B + x.D) (x.C - x.A)
theorem wr {a : Int} (h : -9000000000000000000 ≤ a ∧ a ≤ 9000000000000000000) : IntKind.i64.wrap a = a := wrap_i64 ⟨by omega, by omega⟩
theorem tdiv_le' {a : Int} (h : -2000000000 ≤ a ∧ a ≤ 2000000000) : -1000000000 ≤ Int.tdiv a 2 ∧ Int.tdiv a 2 ≤ 1000000000 := by
  rcases Int.le_total 0 a with h0 | h0
  · rw [Int.tdiv_eq_ediv_of_nonneg h0]; omega
  · have e : a = -(-a) := by omega
    rw [e, Int.neg_tdiv, Int.tdiv_eq_ediv_of_nonneg (by omega)]; omega
theorem half_ok {x : TRing} (h : rOk x = true) : rOk (rHalf x) = true := by
  rw [rOk_iff] at h ⊢
  exact ⟨⟨tdiv_le' (by omega), tdiv_le' (by omega)⟩, tdiv_le' (by omega), tdiv_le' (by omega)⟩
theorem spec_root {x : TRing} (h : rOk x = true) : F_spec_l1Root x = some (rRoot x) := by
  rw [rOk_iff] at h
  unfold F_spec_l1Root rRoot
  rw [wr (a := x.B - x.D) (by omega), wr (a := x.A + x.C) (by omega), wr (a := x.B + x.D) (by omega), wr (a := x.C - x.A) (by omega)]
theorem spec_half {x : TRing} (h : rOk x = true) : F_spec_l1Half x = some (rHalf x) := by
  unfold F_spec_l1Half
  rw [spec_root h]
  have h' := h
  rw [rOk_iff] at h
  have t := half_ok h'
  rw [rOk_iff] at t
  simp only [Option.bind_some, rRoot]
  unfold rHalf at t ⊢
  simp only at t
  rw [wr (a := Int.tdiv (x.B - x.D) 2) (by omega), wr (a := Int.tdiv (x.A + x.C) 2) (by omega), wr (a := Int.tdiv (x.B + x.D) 2) (by omega), wr (a := Int.tdiv (x.C - x.A) 2) (by omega)]
theorem impl_half {x : TRing} (h : rOk x = true) (he : rEven x = true) : F_impl_DivRootTwo x = some (rHalf x, true) := by
  unfold F_impl_DivRootTwo
  have h' := h
  have t := half_ok h'
  have tt := t
  rw [rOk_iff] at h t
  simp only [impl_ring, impl_even, h', he, Option.bind_some, gb, Bool.not_true, Bool.not_false, cond_true, Bool.or_self, cond_false]
  rw [wr (a := x.B - x.D) (by omega), wr (a := x.A + x.C) (by omega), wr (a := x.B + x.D) (by omega), wr (a := x.C - x.A) (by omega)]
  unfold rHalf at t tt ⊢
  simp only at t
  rw [wr (a := Int.tdiv (x.B - x.D) 2) (by omega), wr (a := Int.tdiv (x.A + x.C) 2) (by omega), wr (a := Int.tdiv (x.B + x.D) 2) (by omega), wr (a := Int.tdiv (x.C - x.A) 2) (by omega)]
  rw [ring_if _ _ (by simp)]
  simp [h', tt]
/-- Both bring a number to its lowest terms, and alike. -/
theorem low_both {x : TRing} {e : Int} (hx : rOk x = true) (he : 0 ≤ e ∧ e ≤ 60) : ∃ z, F_spec_l2Low x e = some z ∧ F_impl_DyadicOf x e = some (z, true) ∧ dOk z = true := by
  obtain ⟨⟨e', A, B, C, D⟩, h1, h2, h3, h4, h5, h6⟩ := whX2_inv (f := F_spec_l2Low_l1) (g := F_impl_DyadicOf_l1) (fun s => rOk (TRing.mk s.2.1 s.2.2.1 s.2.2.2.1 s.2.2.2.2) = true ∧ 0 ≤ s.1 ∧ s.1 ≤ 60)
    (fun s => rOk (TRing.mk s.2.1 s.2.2.1 s.2.2.2.1 s.2.2.2.2) = true ∧ 0 ≤ s.1 ∧ s.1 ≤ 60 ∧ ((s.1 == 0) || !rEven (TRing.mk s.2.1 s.2.2.1 s.2.2.2.1 s.2.2.2.2)) = true) (fun s => s.1.toNat)
    (fun s ⟨hr, h0, h60⟩ => by
      obtain ⟨e, A, B, C, D⟩ := s
      simp only at hr h0 h60
      unfold F_spec_l2Low_l1 F_impl_DyadicOf_l1
      simp only [spec_even, impl_even, Option.bind_some, gb]
      by_cases hpos : 0 < e
      · rw [decide_eq_true hpos]
        cases hev : rEven (TRing.mk A B C D) with
        | true =>
          simp only [cond_true, Bool.and_self, spec_half hr, impl_half hr hev, Option.bind_some]
          refine .inl ⟨_, rfl, rfl, ⟨half_ok hr, ?_⟩, ?_⟩
          · show 0 ≤ IntKind.i64.wrap (e - 1) ∧ IntKind.i64.wrap (e - 1) ≤ 60
            rw [wr (by omega)]; omega
          · show (IntKind.i64.wrap (e - 1)).toNat < e.toNat
            rw [wr (by omega)]; omega
        | false =>
          simp only [cond_true, Bool.and_false, cond_false]
          exact .inr ⟨_, rfl, rfl, hr, h0, h60, by simp [hev]⟩
      · rw [decide_eq_false hpos]
        simp only [cond_false, Bool.false_and]
        have : e = 0 := by omega
        exact .inr ⟨_, rfl, rfl, hr, h0, h60, by simp [this]⟩)
    fuel (e, x.A, x.B, x.C, x.D) ⟨hx, he.1, he.2⟩ (fuel_big (by omega))
  refine ⟨TDyadic.mk (TRing.mk A B C D) e', ?_, ?_, ?_⟩
  · unfold F_spec_l2Low; rw [h1]; rfl
  · unfold F_impl_DyadicOf F_impl_within
    simp only [impl_ring, hx, Option.bind_some, gb, Bool.not_true, Bool.not_false, cond_true, Bool.false_or]
    rw [decide_eq_true he.1, decide_eq_true he.2]
    simp only [Bool.and_self, Bool.not_true, cond_false]
    rw [h2]; rfl
  · simp only at h3 h4 h5 h6
    unfold dOk
    simp only [h3, decide_eq_true h4, decide_eq_true h5, Bool.true_and, Bool.and_self]
    exact h6

theorem d_parts {x : TDyadic} (h : dOk x = true) : rOk x.Num = true ∧ 0 ≤ x.Exp ∧ x.Exp ≤ 60 := by
  unfold dOk at h
  simp only [Bool.and_eq_true, decide_eq_true_eq] at h
  exact ⟨h.1.1, h.1.2.1, h.1.2.2⟩
theorem dZero_ok : dOk dZero = true := by decide
theorem rZero_ok : rOk rZero = true := by decide
def cB (b : Bool) : Tl2C := Tl2C.mk b
theorem spec_cring (b : Bool) (x : TRing) : F_spec_l2C_ring (cB b) x = some (if rOk x then (x, cB b) else (rZero, cB true)) := by
  unfold F_spec_l2C_ring
  rw [spec_ring]
  simp only [Option.bind_some]
  cases rOk x <;> rfl
def rMul (x y : TRing) : TRing := (F_spec_l1Mul x y).getD rZero
theorem impl_rmul {x y : TRing} (hx : rOk x = true) (hy : rOk y = true) : F_impl_MulRing x y = some (if rOk (rMul x y) then (rMul x y, true) else (rZero, false)) := by
  have e := ring_if (rMul x y) [x, y] (by simp)
  simp only [List.all_cons, List.all_nil, hx, hy, Bool.true_and] at e
  have e2 : F_impl_MulRing x y = (F_impl_ringIf (rMul x y) [x, y]).bind fun p => some (p.1, p.2) := rfl
  rw [e2, e]
  cases rOk (rMul x y) <;> rfl
theorem mul_both {x y : TDyadic} (hx : dOk x = true) (hy : dOk y = true) :
    (∃ z, dOk z = true ∧ (∀ b, F_spec_l2C_mul (cB b) x y = some (z, cB b)) ∧ F_impl_MulDyadic x y = some (z, true)) ∨
      ((∀ b, ∃ z, dOk z = true ∧ F_spec_l2C_mul (cB b) x y = some (z, cB true)) ∧ F_impl_MulDyadic x y = some (dZero, false)) := by
  obtain ⟨x1, x2, x3⟩ := d_parts hx
  obtain ⟨y1, y2, y3⟩ := d_parts hy
  have hw : IntKind.i64.wrap (x.Exp + y.Exp) = x.Exp + y.Exp := wr (by omega)
  have hi : ∀ q : TRing × Bool, F_impl_MulRing x.Num y.Num = some q → F_impl_MulDyadic x y = (bif !q.2 then some (dZero, false) else (F_impl_DyadicOf q.1 (x.Exp + y.Exp)).bind fun p => some (p.1, p.2)) := fun q hq => by
    unfold F_impl_MulDyadic
    rw [hq]
    simp only [Option.bind_some, impl_dyadic, hx, hy, gb, Bool.not_true, Bool.not_false, cond_true, Bool.false_or, hw]
    rfl
  by_cases he : x.Exp + y.Exp ≤ 60
  · have hs : ∀ b, F_spec_l2C_mul (cB b) x y = (F_spec_l2C_ring (cB b) (rMul x.Num y.Num)).bind fun p => (F_spec_l2Low p.1 (x.Exp + y.Exp)).bind fun r => some (r, p.2) := fun b => by
      unfold F_spec_l2C_mul
      rw [hw, decide_eq_false (show ¬ (60 : Int) < x.Exp + y.Exp by omega)]
      rfl
    cases hr : rOk (rMul x.Num y.Num) with
    | true =>
      obtain ⟨z, z1, z2, z3⟩ := low_both hr (e := x.Exp + y.Exp) ⟨by omega, he⟩
      refine .inl ⟨z, z3, fun b => ?_, ?_⟩
      · rw [hs, spec_cring, hr]; simp only [if_true, Option.bind_some, z1]
      · rw [hi _ (impl_rmul x1 y1), hr]; simp only [if_true, Bool.not_true, cond_false, z2, Option.bind_some]
    | false =>
      refine .inr ⟨fun b => ?_, ?_⟩
      · obtain ⟨z, z1, z2, z3⟩ := low_both rZero_ok (e := x.Exp + y.Exp) ⟨by omega, he⟩
        exact ⟨z, z3, by rw [hs, spec_cring, hr]; simp only [Bool.false_eq_true, if_false, Option.bind_some, z1]⟩
      · rw [hi _ (impl_rmul x1 y1), hr]; rfl
  · refine .inr ⟨fun b => ⟨dZero, dZero_ok, ?_⟩, ?_⟩
    · unfold F_spec_l2C_mul
      rw [hw, decide_eq_true (show (60 : Int) < x.Exp + y.Exp by omega)]
      rfl
    · rw [hi _ (impl_rmul x1 y1)]
      cases hr : rOk (rMul x.Num y.Num) with
      | false => rfl
      | true =>
        simp only [if_true, Bool.not_true, cond_false]
        unfold F_impl_DyadicOf F_impl_within
        simp only [impl_ring, hr, Option.bind_some, gb, Bool.not_true, Bool.not_false, cond_true, Bool.false_or]
        rw [decide_eq_false (show ¬ x.Exp + y.Exp ≤ 60 by omega)]
        simp only [Bool.and_false, Bool.not_false, cond_true]
        rfl

theorem impl_root {x : TRing} (h : rOk x = true) : F_impl_MulRootTwo x = some (if rOk (rRoot x) then (rRoot x, true) else (rZero, false)) := by
  unfold F_impl_MulRootTwo
  have h' := h
  rw [rOk_iff] at h
  rw [wr (a := x.B - x.D) (by omega), wr (a := x.A + x.C) (by omega), wr (a := x.B + x.D) (by omega), wr (a := x.C - x.A) (by omega)]
  have e := ring_if (rRoot x) [x] (by simp)
  simp only [List.all_cons, List.all_nil, h', Bool.true_and] at e
  show (F_impl_ringIf (rRoot x) [x]).bind _ = _
  rw [e]
  cases rOk (rRoot x) <;> rfl
def rTup (b : Bool) (x : TRing) (e : Int) : Bool × Int × Int × Int × Int × Int := (b, x.A, x.B, x.C, x.D, e)
def iTup (x : TRing) (ok : Bool) (e : Int) : Int × Int × Int × Int × Bool × Int := (x.A, x.B, x.C, x.D, ok, e)
/-- A number's numerator for a greater exponent, in the specification's loop. -/
theorem spec_raise {f : Bool × Int × Int × Int × Int × Int → Option (Ex (Bool × Int × Int × Int × Int × Int) (TDyadic × Tl2C))} {E : Int} (hE : E ≤ 60)
    (hf : ∀ b x e, rOk x = true → 0 ≤ e → e ≤ 60 → f (rTup b x e) = some (bif decide (e < E) then .nx (if rOk (rRoot x) then rTup b (rRoot x) (e + 1) else rTup true rZero (e + 1)) else .br (rTup b x e))) :
    ∀ (k : Nat) (b : Bool) (x : TRing) (e : Int), rOk x = true → 0 ≤ e → e ≤ E → (E - e).toNat < k → ∃ b' x', whX f k (rTup b x e) = some (.inl (rTup b' x' E)) ∧ rOk x' = true ∧ (b = true → b' = true)
  | 0, _, _, _, _, _, _, hk => absurd hk (Nat.not_lt_zero _)
  | k + 1, b, x, e, hx, h0, h1, hk => by
    have h := hf b x e hx h0 (by omega)
    by_cases hlt : e < E
    · rw [decide_eq_true hlt, cond_true] at h
      cases hr : rOk (rRoot x) with
      | true =>
        rw [hr] at h; simp only [if_true] at h
        obtain ⟨b', x', e1, e2, e3⟩ := spec_raise hE hf k b (rRoot x) (e + 1) hr (by omega) (by omega) (by omega)
        exact ⟨b', x', by simp only [whX, h, Option.bind_some]; exact e1, e2, e3⟩
      | false =>
        rw [hr] at h; simp only [Bool.false_eq_true, if_false] at h
        obtain ⟨b', x', e1, e2, e3⟩ := spec_raise hE hf k true rZero (e + 1) rZero_ok (by omega) (by omega) (by omega)
        exact ⟨b', x', by simp only [whX, h, Option.bind_some]; exact e1, e2, fun _ => e3 rfl⟩
    · rw [decide_eq_false hlt, cond_false] at h
      have : e = E := by omega
      subst this
      exact ⟨b, x, by simp only [whX, h, Option.bind_some], hx, id⟩
theorem impl_raise_step {E : Int} {x : TRing} {e : Int} (hx : rOk x = true) (h0 : 0 ≤ e) (h1 : e ≤ 60) (ok : Bool) :
    F_impl_raised_l1 E (iTup x ok e) = some (bif decide (e < E) && ok then .nx (if rOk (rRoot x) then iTup (rRoot x) true (e + 1) else iTup rZero false (e + 1)) else .br (iTup x ok e)) := by
  unfold F_impl_raised_l1 iTup
  simp only [impl_root hx]
  rw [wr (a := e + 1) (by omega)]
  cases decide (e < E) && ok <;> cases rOk (rRoot x) <;> rfl
theorem raise_both {f : Bool × Int × Int × Int × Int × Int → Option (Ex (Bool × Int × Int × Int × Int × Int) (TDyadic × Tl2C))} {E : Int} (hE : E ≤ 60)
    (hf : ∀ b x e, rOk x = true → 0 ≤ e → e ≤ 60 → f (rTup b x e) = some (bif decide (e < E) then .nx (if rOk (rRoot x) then rTup b (rRoot x) (e + 1) else rTup true rZero (e + 1)) else .br (rTup b x e))) :
    ∀ (k : Nat) (x : TRing) (e : Int), rOk x = true → 0 ≤ e → e ≤ E → (E - e).toNat < k →
      (∃ x', rOk x' = true ∧ (∀ b, whX f k (rTup b x e) = some (.inl (rTup b x' E))) ∧ whX (F_impl_raised_l1 E) k (iTup x true e) = some (.inl (iTup x' true E))) ∨
        ((∀ b, ∃ x', rOk x' = true ∧ whX f k (rTup b x e) = some (.inl (rTup true x' E))) ∧ ∃ x'' e', rOk x'' = true ∧ whX (F_impl_raised_l1 E) k (iTup x true e) = some (.inl (iTup x'' false e')))
  | 0, _, _, _, _, _, hk => absurd hk (Nat.not_lt_zero _)
  | k + 1, x, e, hx, h0, h1, hk => by
    have h := fun b => hf b x e hx h0 (by omega)
    have hg := impl_raise_step (E := E) hx h0 (by omega) true
    by_cases hlt : e < E
    · simp only [decide_eq_true hlt, cond_true, Bool.true_and] at h hg
      cases hr : rOk (rRoot x) with
      | true =>
        simp only [hr, if_true] at h hg
        rcases raise_both hE hf k (rRoot x) (e + 1) hr (by omega) (by omega) (by omega) with ⟨x', e1, e2, e3⟩ | ⟨e1, x'', e', e2, e3⟩
        · exact .inl ⟨x', e1, fun b => by simp only [whX, h, Option.bind_some]; exact e2 b, by simp only [whX, hg, Option.bind_some]; exact e3⟩
        · refine .inr ⟨fun b => ?_, x'', e', e2, by simp only [whX, hg, Option.bind_some]; exact e3⟩
          obtain ⟨x', e4, e5⟩ := e1 b
          exact ⟨x', e4, by simp only [whX, h, Option.bind_some]; exact e5⟩
      | false =>
        simp only [hr, Bool.false_eq_true, if_false] at h hg
        refine .inr ⟨fun b => ?_, rZero, e + 1, rZero_ok, ?_⟩
        · obtain ⟨b', x', e1, e2, e3⟩ := spec_raise hE hf k true rZero (e + 1) rZero_ok (by omega) (by omega) (by omega)
          have : b' = true := e3 rfl
          subst this
          exact ⟨x', e2, by simp only [whX, h, Option.bind_some]; exact e1⟩
        · cases k with
          | zero => omega
          | succ k =>
            have hg2 := impl_raise_step (E := E) rZero_ok (show 0 ≤ e + 1 by omega) (by omega) false
            simp only [Bool.and_false, cond_false] at hg2
            simp only [whX, hg, Option.bind_some, hg2]
    · simp only [decide_eq_false hlt, cond_false, Bool.false_and] at h hg
      have : e = E := by omega
      subst this
      exact .inl ⟨x, hx, fun b => by simp only [whX, h, Option.bind_some], by simp only [whX, hg, Option.bind_some]⟩
def rAdd (x y : TRing) : TRing := (F_spec_l1Add x y).getD rZero
theorem impl_radd {x y : TRing} (hx : rOk x = true) (hy : rOk y = true) : F_impl_AddRing x y = some (if rOk (rAdd x y) then (rAdd x y, true) else (rZero, false)) := by
  have e := ring_if (rAdd x y) [x, y] (by simp)
  simp only [List.all_cons, List.all_nil, hx, hy, Bool.true_and] at e
  have e2 : F_impl_AddRing x y = (F_impl_ringIf (rAdd x y) [x, y]).bind fun p => some (p.1, p.2) := rfl
  rw [e2, e]
  cases rOk (rAdd x y) <;> rfl
theorem add_l1 (y : TDyadic) (b : Bool) (x : TRing) (e : Int) (hx : rOk x = true) (h0 : 0 ≤ e) (h1 : e ≤ 60) :
    F_spec_l2C_add_l1 y (rTup b x e) = some (bif decide (e < y.Exp) then .nx (if rOk (rRoot x) then rTup b (rRoot x) (e + 1) else rTup true rZero (e + 1)) else .br (rTup b x e)) := by
  have hr := spec_cring b (rRoot x)
  unfold cB at hr
  unfold F_spec_l2C_add_l1 rTup
  simp only [spec_root hx, hr, Option.bind_some]
  rw [wr (a := e + 1) (by omega)]
  cases decide (e < y.Exp) <;> cases rOk (rRoot x) <;> rfl
theorem add_l2 (E : Int) (b0 : Bool) (A C D : Int) (b : Bool) (x : TRing) (e : Int) (hx : rOk x = true) (h0 : 0 ≤ e) (h1 : e ≤ 60) :
    F_spec_l2C_add_l2 E b0 A C D (rTup b x e) = some (bif decide (e < E) then .nx (if rOk (rRoot x) then rTup b (rRoot x) (e + 1) else rTup true rZero (e + 1)) else .br (rTup b x e)) := by
  have hr := spec_cring b (rRoot x)
  unfold cB at hr
  unfold F_spec_l2C_add_l2 rTup
  simp only [spec_root hx, hr, Option.bind_some]
  rw [wr (a := e + 1) (by omega)]
  cases decide (e < E) <;> cases rOk (rRoot x) <;> rfl
/-- The end of a sum in the specification. -/
def fin (b : Bool) (a c : TRing) (E : Int) : Option (TDyadic × Tl2C) :=
  (F_spec_l2C_ring (cB b) (rAdd a c)).bind fun p => (F_spec_l2Low p.1 E).bind fun r => some (r, p.2)
theorem fin_bad (a c : TRing) {E : Int} (hE : 0 ≤ E ∧ E ≤ 60) : ∃ z, dOk z = true ∧ fin true a c E = some (z, cB true) := by
  unfold fin
  rw [spec_cring]
  cases hr : rOk (rAdd a c) with
  | true =>
    obtain ⟨z, z1, _, z3⟩ := low_both hr hE
    exact ⟨z, z3, by simp only [if_true, Option.bind_some, z1]⟩
  | false =>
    obtain ⟨z, z1, _, z3⟩ := low_both rZero_ok hE
    exact ⟨z, z3, by simp only [Bool.false_eq_true, if_false, Option.bind_some, z1]⟩
theorem fin_both {a c : TRing} {E : Int} (hE : 0 ≤ E ∧ E ≤ 60) :
    (rOk (rAdd a c) = true ∧ ∃ z, dOk z = true ∧ (∀ b, fin b a c E = some (z, cB b)) ∧ F_impl_DyadicOf (rAdd a c) E = some (z, true)) ∨ (rOk (rAdd a c) = false ∧ ∀ b, ∃ z, dOk z = true ∧ fin b a c E = some (z, cB true)) := by
  cases hr : rOk (rAdd a c) with
  | true =>
    obtain ⟨z, z1, z2, z3⟩ := low_both hr hE
    exact .inl ⟨rfl, z, z3, fun b => by unfold fin; rw [spec_cring, hr]; simp only [if_true, Option.bind_some, z1], z2⟩
  | false =>
    obtain ⟨z, z1, _, z3⟩ := low_both rZero_ok hE
    exact .inr ⟨rfl, fun b => ⟨z, z3, by unfold fin; rw [spec_cring, hr]; simp only [Bool.false_eq_true, if_false, Option.bind_some, z1]⟩⟩
/-- The specification's sum: its two loops, then its end. -/
theorem spec_add_eq (b : Bool) (x y : TDyadic) {b1 b2 : Bool} {a c : TRing} {e1 e2 : Int} (h1 : whX (F_spec_l2C_add_l1 y) fuel (rTup b x.Num x.Exp) = some (.inl (rTup b1 a e1)))
    (h2 : whX (F_spec_l2C_add_l2 e1 b1 a.A a.C a.D) fuel (rTup b1 y.Num y.Exp) = some (.inl (rTup b2 c e2))) : F_spec_l2C_add (cB b) x y = fin b2 a c e1 := by
  unfold F_spec_l2C_add
  unfold rTup at h1 h2
  show (whX (F_spec_l2C_add_l1 y) fuel (b, x.Num.A, x.Num.B, x.Num.C, x.Num.D, x.Exp)).bind _ = _
  rw [h1]
  simp only [Option.bind_some, orR]
  rw [h2]
  rfl
theorem raised_of {x : TDyadic} {E : Int} {a : TRing} {ok : Bool} {e : Int} (h : whX (F_impl_raised_l1 E) fuel (iTup x.Num true x.Exp) = some (.inl (iTup a ok e))) : F_impl_raised x E = some (a, ok) := by
  unfold F_impl_raised
  unfold iTup at h
  rw [h]
  rfl
theorem comb_add {x y : TDyadic} (hx : dOk x = true) (hy : dOk y = true) {E : Int} (hE : (if x.Exp < y.Exp then y.Exp else x.Exp) = E) {a c : TRing} {oa oc : Bool} (h1 : F_impl_raised x E = some (a, oa)) (h2 : F_impl_raised y E = some (c, oc))
    (ha : rOk a = true) (hc : rOk c = true) : F_impl_AddDyadic x y = (bif oa && oc && rOk (rAdd a c) then F_impl_DyadicOf (rAdd a c) E else some (dZero, false)) := by
  unfold F_impl_AddDyadic F_impl_combined
  rw [hE]
  simp only [impl_dyadic, hx, hy, Option.bind_some, gb, Bool.not_true, Bool.not_false, cond_true, Bool.or_self, cond_false, h1, h2, impl_radd ha hc]
  cases oa <;> cases oc <;> cases hr : rOk (rAdd a c) <;> simp only [Bool.not_true, Bool.not_false, Bool.or_self, Bool.or_true, Bool.true_or, Bool.false_or, Bool.or_false, Bool.and_self, Bool.and_true, Bool.and_false, Bool.true_and, Bool.false_and, if_true, Bool.false_eq_true, if_false, Option.bind_some, cond_true, cond_false]
  all_goals first | rfl | (cases F_impl_DyadicOf (rAdd a c) E <;> rfl)
theorem add_both {x y : TDyadic} (hx : dOk x = true) (hy : dOk y = true) :
    (∃ z, dOk z = true ∧ (∀ b, F_spec_l2C_add (cB b) x y = some (z, cB b)) ∧ F_impl_AddDyadic x y = some (z, true)) ∨
      ((∀ b, ∃ z, dOk z = true ∧ F_spec_l2C_add (cB b) x y = some (z, cB true)) ∧ F_impl_AddDyadic x y = some (dZero, false)) := by
  obtain ⟨x1, x2, x3⟩ := d_parts hx
  obtain ⟨y1, y2, y3⟩ := d_parts hy
  have stay : ∀ {f : Bool × Int × Int × Int × Int × Int → Option (Ex (Bool × Int × Int × Int × Int × Int) (TDyadic × Tl2C))} {t : Bool × Int × Int × Int × Int × Int}, f t = some (.br t) → whX f fuel t = some (.inl t) := fun h => by
    rw [show fuel = (fuel - 1) + 1 from rfl]; simp only [whX, h, Option.bind_some]
  have stayI : ∀ {E : Int} {z : TDyadic}, rOk z.Num = true → 0 ≤ z.Exp → z.Exp ≤ 60 → ¬ z.Exp < E → F_impl_raised z E = some (z.Num, true) := fun {E z} h h0 h1 hn => by
    refine raised_of (e := z.Exp) ?_
    have := impl_raise_step (E := E) h h0 h1 true
    simp only [decide_eq_false hn, Bool.false_and, cond_false] at this
    rw [show fuel = (fuel - 1) + 1 from rfl]; simp only [whX, this, Option.bind_some]
  by_cases hlt : x.Exp < y.Exp
  · have hE : (if x.Exp < y.Exp then y.Exp else x.Exp) = y.Exp := if_pos hlt
    have hst : ∀ (b : Bool) (a : TRing), whX (F_spec_l2C_add_l2 y.Exp b a.A a.C a.D) fuel (rTup b y.Num y.Exp) = some (.inl (rTup b y.Num y.Exp)) := fun b a => stay (by
      rw [add_l2 _ _ _ _ _ _ _ _ y1 y2 y3, decide_eq_false (by omega)]; rfl)
    rcases raise_both (f := F_spec_l2C_add_l1 y) (E := y.Exp) y3 (add_l1 y) fuel x.Num x.Exp x1 x2 (by omega) (fuel_big (by omega)) with ⟨a, a1, a2, a3⟩ | ⟨a1, a, e', a2, a3⟩
    · have hc := comb_add hx hy hE (raised_of a3) (stayI y1 y2 y3 (by omega)) a1 y1
      rcases fin_both (a := a) (c := y.Num) (E := y.Exp) ⟨y2, y3⟩ with ⟨r1, z, z1, z2, z3⟩ | ⟨r1, z1⟩
      · exact .inl ⟨z, z1, fun b => by rw [spec_add_eq b x y (a2 b) (hst b a)]; exact z2 b, by rw [hc, r1]; exact z3⟩
      · refine .inr ⟨fun b => ?_, by rw [hc, r1]; rfl⟩
        obtain ⟨z, z2, z3⟩ := z1 b
        exact ⟨z, z2, by rw [spec_add_eq b x y (a2 b) (hst b a)]; exact z3⟩
    · have hc := comb_add hx hy hE (raised_of a3) (stayI y1 y2 y3 (by omega)) a2 y1
      refine .inr ⟨fun b => ?_, by rw [hc]; rfl⟩
      obtain ⟨a', _, a5⟩ := a1 b
      obtain ⟨z, z2, z3⟩ := fin_bad a' y.Num (E := y.Exp) ⟨y2, y3⟩
      exact ⟨z, z2, by rw [spec_add_eq b x y a5 (hst true a')]; exact z3⟩
  · have hE : (if x.Exp < y.Exp then y.Exp else x.Exp) = x.Exp := if_neg hlt
    have hst : ∀ (b : Bool), whX (F_spec_l2C_add_l1 y) fuel (rTup b x.Num x.Exp) = some (.inl (rTup b x.Num x.Exp)) := fun b => stay (by
      rw [add_l1 y _ _ _ x1 x2 x3, decide_eq_false (by omega)]; rfl)
    have hr := fun (b0 : Bool) => raise_both (f := F_spec_l2C_add_l2 x.Exp b0 x.Num.A x.Num.C x.Num.D) (E := x.Exp) x3 (add_l2 _ _ _ _ _) fuel y.Num y.Exp y1 y2 (by omega) (fuel_big (by omega))
    have hcm : ∀ {c : TRing} {oc : Bool}, F_impl_raised y x.Exp = some (c, oc) → rOk c = true → F_impl_AddDyadic x y = (bif true && oc && rOk (rAdd x.Num c) then F_impl_DyadicOf (rAdd x.Num c) x.Exp else some (dZero, false)) := fun h hc =>
      comb_add hx hy hE (stayI x1 x2 x3 (by omega)) h x1 hc
    rcases hr true with ⟨c, c1, c2, c3⟩ | ⟨c1, c, e', c2, c3⟩
    · have hc := hcm (raised_of c3) c1
      have hs : ∀ b, F_spec_l2C_add (cB b) x y = fin b x.Num c x.Exp := fun b => by
        rcases hr b with ⟨c', d1, d2, d3⟩ | ⟨_, c', e', _, d3⟩
        · rw [c3] at d3
          have : c = c' := by cases c; cases c'; simp only [iTup, Option.some.injEq, Sum.inl.injEq, Prod.mk.injEq] at d3; simp only [TRing.mk.injEq]; exact ⟨d3.1, d3.2.1, d3.2.2.1, d3.2.2.2.1⟩
          subst this
          exact spec_add_eq b x y (hst b) (d2 b)
        · rw [c3] at d3
          simp [iTup] at d3
      rcases fin_both (a := x.Num) (c := c) (E := x.Exp) ⟨x2, x3⟩ with ⟨r1, z, z1, z2, z3⟩ | ⟨r1, z1⟩
      · exact .inl ⟨z, z1, fun b => by rw [hs]; exact z2 b, by rw [hc, r1]; exact z3⟩
      · refine .inr ⟨fun b => ?_, by rw [hc, r1]; rfl⟩
        obtain ⟨z, z2, z3⟩ := z1 b
        exact ⟨z, z2, by rw [hs]; exact z3⟩
    · have hc := hcm (raised_of c3) c2
      refine .inr ⟨fun b => ?_, by rw [hc]; rfl⟩
      rcases hr b with ⟨c', d1, d2, d3⟩ | ⟨d1, _⟩
      · rw [c3] at d3; simp [iTup] at d3
      · obtain ⟨c', _, d5⟩ := d1 b
        obtain ⟨z, z2, z3⟩ := fin_bad x.Num c' (E := x.Exp) ⟨x2, x3⟩
        exact ⟨z, z2, by rw [spec_add_eq b x y (hst b) d5]; exact z3⟩

def DM (x y : TDyadic) : Option TDyadic := (F_impl_MulDyadic x y).bind fun p => if p.2 then some p.1 else none
def DA (x y : TDyadic) : Option TDyadic := (F_impl_AddDyadic x y).bind fun p => if p.2 then some p.1 else none
/-- An answer of the program: the number, or zero and false. -/
def dR (o : Option TDyadic) : TDyadic × Bool := match o with | some z => (z, true) | none => (dZero, false)
/-- The specification's step f, from whatever flag, ends in the number o, the flag as it was; or, if there is none, in some number and the flag set. -/
def SP {α : Type} (f : Tl2C → Option (α × Tl2C)) (G : α → Prop) (o : Option α) : Prop :=
  ∀ b, ∃ z b', f (cB b) = some (z, cB b') ∧ G z ∧ ((o = some z ∧ b' = b) ∨ (o = none ∧ b' = true))
theorem SP.bind {α β : Type} {f : Tl2C → Option (α × Tl2C)} {G : α → Prop} {o : Option α} (hf : SP f G o) {h : α → Tl2C → Option (β × Tl2C)} {G' : β → Prop} {o' : α → Option β}
    (hh : ∀ z, G z → SP (h z) G' (o' z)) : SP (fun c => (f c).bind fun p => h p.1 p.2) G' (o.bind o') := fun b => by
  obtain ⟨z, b', h1, h2, h3⟩ := hf b
  obtain ⟨z', b'', h4, h5, h6⟩ := hh z h2 b'
  refine ⟨z', b'', by simp only [h1, Option.bind_some]; exact h4, h5, ?_⟩
  rcases h3 with ⟨rfl, rfl⟩ | ⟨rfl, rfl⟩
  · simpa using h6
  · rcases h6 with ⟨_, h6⟩ | ⟨_, h6⟩
    · exact .inr ⟨rfl, h6⟩
    · exact .inr ⟨rfl, h6⟩
theorem SP.pure {α : Type} {G : α → Prop} {z : α} (h : G z) : SP (fun c => some (z, c)) G (some z) := fun b => ⟨z, b, rfl, h, .inl ⟨rfl, rfl⟩⟩
theorem SP.map {α β : Type} {f : Tl2C → Option (α × Tl2C)} {G : α → Prop} {o : Option α} (hf : SP f G o) {g : α → β} {G' : β → Prop} (hg : ∀ z, G z → G' (g z)) : SP (fun c => (f c).bind fun p => some (g p.1, p.2)) G' (o.map g) := by
  have := hf.bind (h := fun z c => some (g z, c)) (o' := fun z => some (g z)) (fun z hz => SP.pure (hg z hz))
  rwa [Option.map_eq_bind]
theorem spM {x y : TDyadic} (hx : dOk x = true) (hy : dOk y = true) : SP (fun c => F_spec_l2C_mul c x y) (fun z => dOk z = true) (DM x y) := fun b => by
  unfold DM
  rcases mul_both hx hy with ⟨z, h1, h2, h3⟩ | ⟨h1, h2⟩
  · exact ⟨z, b, h2 b, h1, .inl ⟨by rw [h3]; rfl, rfl⟩⟩
  · obtain ⟨z, h3, h4⟩ := h1 b
    exact ⟨z, true, h4, h3, .inr ⟨by rw [h2]; rfl, rfl⟩⟩
theorem spA {x y : TDyadic} (hx : dOk x = true) (hy : dOk y = true) : SP (fun c => F_spec_l2C_add c x y) (fun z => dOk z = true) (DA x y) := fun b => by
  unfold DA
  rcases add_both hx hy with ⟨z, h1, h2, h3⟩ | ⟨h1, h2⟩
  · exact ⟨z, b, h2 b, h1, .inl ⟨by rw [h3]; rfl, rfl⟩⟩
  · obtain ⟨z, h3, h4⟩ := h1 b
    exact ⟨z, true, h4, h3, .inr ⟨by rw [h2]; rfl, rfl⟩⟩
theorem imM {x y : TDyadic} (hx : dOk x = true) (hy : dOk y = true) : F_impl_MulDyadic x y = some (dR (DM x y)) := by
  unfold DM
  rcases mul_both hx hy with ⟨z, h1, h2, h3⟩ | ⟨h1, h2⟩
  · rw [h3]; rfl
  · rw [h2]; rfl
theorem imA {x y : TDyadic} (hx : dOk x = true) (hy : dOk y = true) : F_impl_AddDyadic x y = some (dR (DA x y)) := by
  unfold DA
  rcases add_both hx hy with ⟨z, h1, h2, h3⟩ | ⟨h1, h2⟩
  · rw [h3]; rfl
  · rw [h2]; rfl
theorem dm_ok {x y z : TDyadic} (hx : dOk x = true) (hy : dOk y = true) (h : DM x y = some z) : dOk z = true := by
  unfold DM at h
  rcases mul_both hx hy with ⟨z', h1, h2, h3⟩ | ⟨h1, h2⟩
  · rw [h3] at h; simp at h; rw [← h]; exact h1
  · rw [h2] at h; simp at h
theorem da_ok {x y z : TDyadic} (hx : dOk x = true) (hy : dOk y = true) (h : DA x y = some z) : dOk z = true := by
  unfold DA at h
  rcases add_both hx hy with ⟨z', h1, h2, h3⟩ | ⟨h1, h2⟩
  · rw [h3] at h; simp at h; rw [← h]; exact h1
  · rw [h2] at h; simp at h
theorem dR_ok {o : Option TDyadic} (h : ∀ z, o = some z → dOk z = true) : dOk (dR o).1 = true := by
  cases o with
  | none => exact dZero_ok
  | some z => exact h z rfl

/-- What the specification holds (z, and its flag b') beside the number o (or none): the flag before is b; once it is set, it stays. -/
def SR {α : Type} (G : α → Prop) (o : Option α) (b : Bool) (z : α) (b' : Bool) : Prop := G z ∧ (b = true → b' = true) ∧ (b = false → (o = some z ∧ b' = false) ∨ (o = none ∧ b' = true))
theorem SR.bind {α β : Type} {G : α → Prop} {G' : β → Prop} {o : Option α} {o' : α → Option β} {b b' b'' : Bool} {z : α} {z' : β} (h1 : SR G o b z b') (h2 : SR G' (o' z) b' z' b'') : SR G' (o.bind o') b z' b'' := by
  refine ⟨h2.1, fun h => h2.2.1 (h1.2.1 h), fun h => ?_⟩
  rcases h1.2.2 h with ⟨rfl, rfl⟩ | ⟨rfl, rfl⟩
  · exact h2.2.2 rfl
  · exact .inr ⟨rfl, h2.2.1 rfl⟩
theorem SR.bad {α : Type} {G : α → Prop} {o : Option α} {z : α} {b' : Bool} (h : SR G o true z b') : b' = true := h.2.1 rfl
theorem SR.good {α : Type} {G : α → Prop} {o : Option α} {z : α} {b' : Bool} (h : SR G o false z b') : (o = some z ∧ b' = false) ∨ (o = none ∧ b' = true) := h.2.2 rfl
theorem SR.pure {α : Type} {G : α → Prop} {z : α} {b : Bool} (h : G z) : SR G (some z) b z b := ⟨h, id, fun hb => .inl ⟨rfl, hb⟩⟩
theorem SR.mono {α : Type} {G G' : α → Prop} {o : Option α} {b b' : Bool} {z : α} (h : SR G o b z b') (hg : G z → G' z) : SR G' o b z b' := ⟨hg h.1, h.2⟩
theorem SR.map {α β : Type} {G : α → Prop} {G' : β → Prop} {o : Option α} {b b' : Bool} {z : α} (h : SR G o b z b') (g : α → β) (hg : G z → G' (g z)) : SR G' (o.map g) b (g z) b' := by
  refine ⟨hg h.1, h.2.1, fun hb => ?_⟩
  rcases h.2.2 hb with ⟨rfl, h2⟩ | ⟨rfl, h2⟩
  · exact .inl ⟨rfl, h2⟩
  · exact .inr ⟨rfl, h2⟩
theorem sr_of {α : Type} {f : Tl2C → Option (α × Tl2C)} {G : α → Prop} {o : Option α} (h : SP f G o) (b : Bool) : ∃ z b', f (cB b) = some (z, cB b') ∧ SR G o b z b' := by
  obtain ⟨z, b', h1, h2, h3⟩ := h b
  refine ⟨z, b', h1, h2, fun hb => ?_, fun hb => ?_⟩
  · rcases h3 with ⟨_, h3⟩ | ⟨_, h3⟩
    · exact h3.trans hb
    · exact h3
  · rcases h3 with ⟨h3, h4⟩ | ⟨h3, h4⟩
    · exact .inl ⟨h3, h4.trans hb⟩
    · exact .inr ⟨h3, h4⟩
theorem srM {x y : TDyadic} (hx : dOk x = true) (hy : dOk y = true) (b : Bool) : ∃ z b', F_spec_l2C_mul (cB b) x y = some (z, cB b') ∧ SR (fun z => dOk z = true) (DM x y) b z b' := sr_of (spM hx hy) b
theorem srA {x y : TDyadic} (hx : dOk x = true) (hy : dOk y = true) (b : Bool) : ∃ z b', F_spec_l2C_add (cB b) x y = some (z, cB b') ∧ SR (fun z => dOk z = true) (DA x y) b z b' := sr_of (spA hx hy) b
theorem sr_it {β τ : Type} {f : Nat → τ → Option τ} {enc : Bool → β → τ} {G : Nat → β → Prop} {st : Nat → β → Option β} {n : Nat}
    (hf : ∀ k b s, k < n → G k s → ∃ z b', f k (enc b s) = some (enc b' z) ∧ SR (G (k + 1)) (st k s) b z b') :
    ∀ (m i : Nat) (s : β) (b : Bool), i + m ≤ n → G i s → ∃ z b', forN f m i (enc b s) = some (enc b' z) ∧ SR (G (i + m)) (forN st m i s) b z b'
  | 0, i, s, b, _, hG => ⟨s, b, rfl, SR.pure hG⟩
  | m + 1, i, s, b, hm, hG => by
    obtain ⟨z, b', h1, h2⟩ := hf i b s (by omega) hG
    obtain ⟨z', b'', h3, h4⟩ := sr_it hf m (i + 1) z b' (by omega) h2.1
    rw [show i + 1 + m = i + (m + 1) by omega] at h4
    exact ⟨z', b'', by simp only [forN, h1, Option.bind_some]; exact h3, h2.bind h4⟩
/-- A loop of the specification that stops at its flag. -/
theorem sr_wh {β τ ρ : Type} {f : τ → Option (Ex τ ρ)} {enc : Bool → β → Nat → τ} {G : β → Prop} {st : Nat → β → Option β} {n : Nat}
    (hb : ∀ k s, f (enc true s k) = some (.br (enc true s k))) (hn : ∀ s, f (enc false s n) = some (.br (enc false s n)))
    (hf : ∀ k s, k < n → G s → ∃ z b', f (enc false s k) = some (.nx (enc b' z (k + 1))) ∧ SR G (st k s) false z b') :
    ∀ (q m i : Nat) (s : β) (b : Bool), i + m = n → m < q → G s → ∃ z b' k', whX f q (enc b s i) = some (.inl (enc b' z k')) ∧ SR G (forN st m i s) b z b'
  | 0, _, _, _, _, _, hq, _ => absurd hq (Nat.not_lt_zero _)
  | q + 1, m, i, s, true, _, _, hG => ⟨s, true, i, by simp only [whX, hb, Option.bind_some], hG, fun h => h, fun h => by cases h⟩
  | q + 1, 0, i, s, false, hm, _, hG => by
    have : i = n := by omega
    subst this
    exact ⟨s, false, i, by simp only [whX, hn, Option.bind_some], SR.pure hG⟩
  | q + 1, m + 1, i, s, false, hm, hq, hG => by
    obtain ⟨z, b', h1, h2⟩ := hf i s (by omega) hG
    obtain ⟨z', b'', k', h3, h4⟩ := sr_wh hb hn hf q m (i + 1) z b' (by omega) (by omega) h2.1
    exact ⟨z', b'', k', by simp only [whX, h1, Option.bind_some]; exact h3, h2.bind h4⟩
/-- What a loop that may leave the function ends in. -/
def exO {β τ ρ : Type} (enc : β → τ) (R : ρ) (o : Option β) : τ ⊕ ρ := match o with | some z => .inl (enc z) | none => .inr R
def nxO {β τ ρ : Type} (enc : β → τ) (R : ρ) (o : Option β) : Ex τ ρ := match o with | some z => .nx (enc z) | none => .rt R
theorem im_it {β τ ρ : Type} {g : Nat → τ → Option (Ex τ ρ)} {enc : β → τ} {G : Nat → β → Prop} {st : Nat → β → Option β} {R : ρ} {n : Nat}
    (hg : ∀ k s, k < n → G k s → g k (enc s) = some (nxO enc R (st k s)) ∧ ∀ z, st k s = some z → G (k + 1) z) :
    ∀ (m i : Nat) (s : β), i + m ≤ n → G i s → forX g m i (enc s) = some (exO enc R (forN st m i s)) ∧ ∀ z, forN st m i s = some z → G (i + m) z
  | 0, i, s, _, hG => ⟨rfl, fun z h => by cases h; exact hG⟩
  | m + 1, i, s, hm, hG => by
    obtain ⟨h1, h2⟩ := hg i s (by omega) hG
    cases hs : st i s with
    | none =>
      rw [hs] at h1
      refine ⟨by simp only [forX, h1, nxO, Option.bind_some, forN, hs, Option.bind_none, exO], fun z hz => ?_⟩
      simp only [forN, hs, Option.bind_none] at hz; cases hz
    | some z =>
      rw [hs] at h1
      obtain ⟨h3, h4⟩ := im_it hg m (i + 1) z (by omega) (h2 z hs)
      rw [show i + 1 + m = i + (m + 1) by omega] at h4
      exact ⟨by simp only [forX, h1, nxO, Option.bind_some, forN, hs]; exact h3, fun z' hz => h4 z' (by simpa only [forN, hs, Option.bind_some] using hz)⟩
theorem gI {l : List TDyadic} {x : Int} {n : Nat} (hx : x = (n : Int)) (hn : n < l.length) : getI l x = some (l.getD n dZero) := by
  subst hx; rw [getI_nat, List.getElem?_eq_getElem hn]; simp [hn]
theorem getD_ok {l : List TDyadic} (h : ∀ z ∈ l, dOk z = true) (n : Nat) : dOk (l.getD n dZero) = true := by
  rw [List.getD_eq_getElem?_getD]
  cases hx : l[n]? with
  | none => exact dZero_ok
  | some x => exact h x (List.mem_of_getElem? hx)
def sT (b : Bool) (s : TDyadic) : Bool × Int × Int × Int × Int × Int := (b, s.Num.A, s.Num.B, s.Num.C, s.Num.D, s.Exp)
def iT (s : TDyadic) : Int × Int × Int × Int × Int := (s.Num.A, s.Num.B, s.Num.C, s.Num.D, s.Exp)
/-- One more product onto a sum. -/
def dotS (X Y : Nat → TDyadic) (k : Nat) (s : TDyadic) : Option TDyadic := (DM (X k) (Y k)).bind fun p => DA s p
theorem dot_spec {X Y : Nat → TDyadic} (hX : ∀ k, dOk (X k) = true) (hY : ∀ k, dOk (Y k) = true) (k : Nat) (b : Bool) (s : TDyadic) (hs : dOk s = true) :
    ∃ z b', ((F_spec_l2C_mul (cB b) (X k) (Y k)).bind fun p => (F_spec_l2C_add p.2 s p.1).bind fun q => some (sT q.2.bad q.1)) = some (sT b' z) ∧ SR (fun z => dOk z = true) (dotS X Y k s) b z b' := by
  obtain ⟨z, b', h1, h2⟩ := srM (hX k) (hY k) b
  obtain ⟨z', b'', h3, h4⟩ := srA hs h2.1 b'
  exact ⟨z', b'', by simp only [h1, Option.bind_some, h3]; rfl, h2.bind h4⟩
theorem dot_impl {ρ : Type} {X Y : Nat → TDyadic} (hX : ∀ k, dOk (X k) = true) (hY : ∀ k, dOk (Y k) = true) (R : ρ) (k : Nat) (s : TDyadic) (hs : dOk s = true) :
    ((F_impl_MulDyadic (X k) (Y k)).bind fun p => (F_impl_AddDyadic s p.1).bind fun q => bif (!p.2) || (!q.2) then some (.rt R) else some (.nx (iT q.1))) = some (nxO iT R (dotS X Y k s)) ∧ ∀ z, dotS X Y k s = some z → dOk z = true := by
  unfold dotS
  rw [imM (hX k) (hY k)]
  have ho : dOk (dR (DM (X k) (Y k))).1 = true := dR_ok (fun z hz => dm_ok (hX k) (hY k) hz)
  simp only [Option.bind_some]
  rw [imA hs ho]
  simp only [Option.bind_some]
  cases hm : DM (X k) (Y k) with
  | none => exact ⟨rfl, fun z hz => by cases hz⟩
  | some p =>
    rw [hm] at ho
    simp only [dR, Option.bind_some] at ho ⊢
    cases ha : DA s p with
    | none => exact ⟨rfl, fun z hz => by cases hz⟩
    | some q => exact ⟨rfl, fun z hz => by cases hz; exact da_ok hs ho ha⟩
theorem rr_zero : rRoot rZero = rZero := by decide
theorem raise_zero {E : Int} (hE : E ≤ 60) : ∀ (k : Nat) (e : Int), 0 ≤ e → e ≤ E → (E - e).toNat < k → whX (F_impl_raised_l1 E) k (iTup rZero true e) = some (.inl (iTup rZero true E))
  | 0, _, _, _, hk => absurd hk (Nat.not_lt_zero _)
  | k + 1, e, h0, h1, hk => by
    have h := impl_raise_step (E := E) rZero_ok h0 (by omega) true
    by_cases hlt : e < E
    · rw [decide_eq_true hlt, rr_zero, rZero_ok] at h
      simp only [Bool.and_self, cond_true, if_true] at h
      simp only [whX, h, Option.bind_some]
      exact raise_zero hE k (e + 1) (by omega) (by omega) (by omega)
    · rw [decide_eq_false hlt] at h
      simp only [Bool.false_and, cond_false] at h
      have : e = E := by omega
      subst this
      simp only [whX, h, Option.bind_some]
theorem low_id {x : TDyadic} (h : dOk x = true) : F_impl_DyadicOf x.Num x.Exp = some (x, true) := by
  obtain ⟨h1, h2, h3⟩ := d_parts h
  have hl : F_impl_DyadicOf_l1 (x.Exp, x.Num.A, x.Num.B, x.Num.C, x.Num.D) = some (.br (x.Exp, x.Num.A, x.Num.B, x.Num.C, x.Num.D)) := by
    unfold F_impl_DyadicOf_l1
    simp only [impl_even, Option.bind_some, gb]
    unfold dOk at h
    simp only [Bool.and_eq_true, Bool.or_eq_true, beq_iff_eq, Bool.not_eq_true'] at h
    rcases h.2 with h | h
    · rw [decide_eq_false (show ¬ 0 < x.Exp by omega)]; rfl
    · have e : rEven (TRing.mk x.Num.A x.Num.B x.Num.C x.Num.D) = false := h
      rw [e]; cases decide (0 < x.Exp) <;> rfl
  unfold F_impl_DyadicOf F_impl_within
  simp only [impl_ring, h1, Option.bind_some, gb, Bool.not_true, Bool.not_false, cond_true, Bool.false_or]
  rw [decide_eq_true h2, decide_eq_true h3]
  simp only [Bool.and_self, Bool.not_true, cond_false]
  rw [show fuel = (fuel - 1) + 1 from rfl]
  simp only [whX, hl, Option.bind_some, orR]
theorem zero_add {x : TDyadic} (h : dOk x = true) : DA dZero x = some x := by
  obtain ⟨h1, h2, h3⟩ := d_parts h
  have hr := h1
  rw [rOk_iff] at hr
  have e : rAdd rZero x.Num = x.Num := by
    unfold rAdd F_spec_l1Add rZero
    simp only [Int.zero_add, Option.getD_some]
    rw [wr (a := x.Num.A) (by omega), wr (a := x.Num.B) (by omega), wr (a := x.Num.C) (by omega), wr (a := x.Num.D) (by omega)]
  have hE : (if dZero.Exp < x.Exp then x.Exp else dZero.Exp) = x.Exp := by
    show (if (0 : Int) < x.Exp then x.Exp else 0) = x.Exp
    split <;> omega
  have hst : F_impl_raised x x.Exp = some (x.Num, true) := by
    refine raised_of (e := x.Exp) ?_
    have := impl_raise_step (E := x.Exp) h1 h2 h3 true
    simp only [Int.lt_irrefl, decide_false, Bool.false_and, cond_false] at this
    rw [show fuel = (fuel - 1) + 1 from rfl]; simp only [whX, this, Option.bind_some]
  have hz : F_impl_raised dZero x.Exp = some (rZero, true) := raised_of (x := dZero) (raise_zero h3 fuel 0 (by omega) h2 (fuel_big (by omega)))
  have hc := comb_add dZero_ok h hE hz hst rZero_ok h1
  rw [e, h1] at hc
  simp only [Bool.and_self, cond_true, low_id h] at hc
  unfold DA
  rw [hc]; rfl

def okD (l : List TDyadic) : Prop := ∀ z ∈ l, dOk z = true
theorem okD_snoc {l : List TDyadic} {z : TDyadic} (hl : okD l) (hz : dOk z = true) : okD (l ++ [z]) := fun x hx => by
  rcases List.mem_append.1 hx with h | h
  · exact hl x h
  · simp only [List.mem_singleton] at h; subst h; exact hz
theorem dy_eq (x y : TDyadic) : (((x.Num.A == y.Num.A) && ((x.Num.B == y.Num.B) && ((x.Num.C == y.Num.C) && ((x.Num.D == y.Num.D) && true)))) && ((x.Exp == y.Exp) && true)) = decide (x = y) := by
  obtain ⟨⟨A, B, C, D⟩, e⟩ := x
  obtain ⟨⟨A', B', C', D'⟩, e'⟩ := y
  rw [Bool.eq_iff_iff]
  simp only [Bool.and_true, Bool.and_eq_true, beq_iff_eq, decide_eq_true_eq, TDyadic.mk.injEq, TRing.mk.injEq]
theorem bs {α : Type} {b : Bool} {x y : α} : (bif b then some x else some y) = some (bif b then x else y) := by cases b <;> rfl
theorem forX_same {α ρ : Type} [DecidableEq α] {f : Nat → Unit → Option (Ex Unit ρ)} {l l' : List α} {q : ρ} (hl : l.length = l'.length)
    (hf : ∀ i x y, l[i]? = some x → l'[i]? = some y → f i () = some (bif !decide (x = y) then .rt q else .nx ())) : forX f l.length 0 () = some (if l = l' then .inl () else .inr q) := by
  rcases forX_inv (f := f) (fun j _ => ∀ i, i < j → l[i]? = l'[i]?) (fun r => r = q ∧ l ≠ l') l.length 0 () (fun i hi => absurd hi (Nat.not_lt_zero _)) (fun j s _ hj hI => by
    have hj : j < l.length := by omega
    have h := hf j _ _ (List.getElem?_eq_getElem hj) (List.getElem?_eq_getElem (show j < l'.length by omega))
    by_cases he : l[j] = l'[j]'(by omega)
    · rw [decide_eq_true he] at h
      refine .inl ⟨(), h, fun i hi => ?_⟩
      rcases Nat.lt_succ_iff_lt_or_eq.1 hi with h' | rfl
      · exact hI i h'
      · rw [List.getElem?_eq_getElem hj, List.getElem?_eq_getElem (show i < l'.length by omega), he]
    · rw [decide_eq_false he] at h
      exact .inr ⟨q, h, rfl, fun e => he (by subst e; rfl)⟩) with ⟨⟨⟩, h1, h2⟩ | ⟨r, h1, rfl, h2⟩
  · rw [h1, if_pos]
    apply List.ext_getElem?
    intro i
    by_cases hi : i < l.length
    · exact h2 i (by omega)
    · rw [List.getElem?_eq_none (by omega), List.getElem?_eq_none (by omega)]
  · rw [h1, if_neg h2]
def dOne : TDyadic := TDyadic.mk (TRing.mk 1 0 0 0) 0
theorem l2p0 : F_spec_l2Power 0 = some dOne := by
  unfold F_spec_l2Power F_spec_l1Turn
  rw [show fuel = (fuel - 1) + 1 from rfl]
  rfl
theorem index_eq {l : List TDyadic} {f : TDyadic → Option Bool} {p : TDyadic → Bool} (hl : l.length ≤ 9223372036854775807) (hf : ∀ x, f x = some (p x)) :
    ∃ i, F_slices_IndexFunc_impl_Dyadic_impl_Dyadic l f = some i ∧ decide (0 ≤ i) = l.any p := by
  unfold F_slices_IndexFunc_impl_Dyadic_impl_Dyadic
  rw [chk_t hl]
  rcases forX_any (f := F_slices_IndexFunc_impl_Dyadic_impl_Dyadic_l1 l f) (l := l) (p := p) (q := fun i => (i : Int)) (fun i x hx => by
    unfold F_slices_IndexFunc_impl_Dyadic_impl_Dyadic_l1
    simp only [getI_nat, hx, Option.bind_some, hf, bs]) with ⟨h1, h2⟩ | ⟨h1, i, _, h2⟩
  · rw [h2, h1]; exact ⟨-1, rfl, by decide⟩
  · rw [h2, h1]; exact ⟨i, rfl, by simp⟩
theorem contains_eq {l : List TDyadic} {f : TDyadic → Option Bool} {p : TDyadic → Bool} (hl : l.length ≤ 9223372036854775807) (hf : ∀ x, f x = some (p x)) :
    F_slices_ContainsFunc_impl_Dyadic_impl_Dyadic l f = some (l.any p) := by
  unfold F_slices_ContainsFunc_impl_Dyadic_impl_Dyadic
  obtain ⟨i, h1, h2⟩ := index_eq hl hf
  rw [h1]; simp only [Option.bind_some, h2]
theorem any_not_all {l : List TDyadic} {p : TDyadic → Bool} : (l.any fun x => !p x) = !l.all p := by
  induction l with
  | nil => rfl
  | cons x l ih => simp only [List.any_cons, List.all_cons, ih, Bool.not_and]

def dimB (n : Int) : Bool := [1, 2, 4, 8, 16, 32].any fun x => x == n
theorem dim_le {n : Int} (h : dimB n = true) : 1 ≤ n ∧ n ≤ 32 := by
  unfold dimB at h
  simp only [List.any_cons, List.any_nil, Bool.or_false, Bool.or_eq_true, beq_iff_eq] at h
  omega
theorem dim_small : ∀ k : Fin 33, 1 ≤ k.val → (((decide ((1 : Int) ≤ (k.val : Int))) && (decide ((k.val : Int) ≤ 32))) && ((bits .and .i64 (k.val : Int) (IntKind.i64.wrap ((k.val : Int) - 1))) == 0)) = dimB (k.val : Int) := by decide +kernel
theorem impl_dim (n : Int) : F_impl_isDim n = some (dimB n) := by
  unfold F_impl_isDim F_impl_within
  simp only [Option.bind_some]
  by_cases h : 1 ≤ n ∧ n ≤ 32
  · obtain ⟨k, rfl⟩ : ∃ k : Nat, n = k := ⟨n.toNat, by omega⟩
    exact congrArg some (dim_small ⟨k, by omega⟩ (by simp only; omega))
  · have : dimB n = false := by
      cases hd : dimB n with
      | false => rfl
      | true => exact absurd (dim_le hd) h
    rw [this]
    by_cases h1 : 1 ≤ n
    · rw [decide_eq_false (show ¬ n ≤ 32 by omega)]; simp
    · rw [decide_eq_false h1]; simp
theorem ix_lt {R C i j : Nat} (hi : i < R) (hj : j < C) : i * C + j < R * C := by
  have : (i + 1) * C ≤ R * C := Nat.mul_le_mul_right _ hi
  rw [Nat.add_mul] at this; omega
theorem ix {R C i j : Nat} (hi : i < R) (hj : j < C) (hR : R ≤ 32) (hC : C ≤ 32) : IntKind.i64.wrap (IntKind.i64.wrap ((i : Int) * (C : Int)) + (j : Int)) = ((i * C + j : Nat) : Int) := by
  have h1 := ix_lt hi hj
  have h2 : R * C ≤ 32 * 32 := Nat.mul_le_mul hR hC
  have e : (i : Int) * (C : Int) = ((i * C : Nat) : Int) := by push_cast; rfl
  rw [e, wr (a := ((i * C : Nat) : Int)) (by omega), wr (by omega)]
  omega
def gridO (cell : Nat → Nat → Option TDyadic) (R C : Nat) : Option (List TDyadic) := forN (fun i l => forN (fun j l => (cell i j).bind fun z => some (l ++ [z])) C 0 l) R 0 []
def mmCell (a b : List TDyadic) (K C i j : Nat) : Option TDyadic := forN (dotS (fun k => a.getD (i * K + k) dZero) (fun k => b.getD (k * C + j) dZero)) K 0 dZero
def mmO (a b : List TDyadic) (R K C : Nat) : Option (List TDyadic) := gridO (mmCell a b K C) R C
def wT (b : Bool) (s : TDyadic) (k : Nat) : Bool × Int × Int × Int × Int × Int × Int := (b, s.Num.A, s.Num.B, s.Num.C, s.Num.D, s.Exp, (k : Int))
theorem grid_len {R C i j : Nat} (hi : i < R) (hj : j < C) (hR : R ≤ 32) (hC : C ≤ 32) : i * C + j + 1 ≤ 1024 := by
  have h1 := ix_lt hi hj
  have h2 : R * C ≤ 32 * 32 := Nat.mul_le_mul hR hC
  omega
theorem sp_times {R K C : Nat} {la lb : List TDyadic} (ha : okD la) (hb : okD lb) (na : la.length = R * K) (nb : lb.length = K * C) (hR : R ≤ 32) (hK : K ≤ 32) (hC : C ≤ 32) (c : Bool) :
    ∃ l c', F_spec_l2C_times (cB c) (TMatrix.mk R K la) (TMatrix.mk K C lb) = some (TMatrix.mk R C l, cB c') ∧ SR (fun l => okD l ∧ l.length = R * C) (mmO la lb R K C) c l c' := by
  have l3 : ∀ (i j : Nat) (Cells : List TDyadic) (bad b0 : Bool), i < R → j < C → ∃ z b' k', whX (F_spec_l2C_times_l3 (TMatrix.mk R K la) Cells i (TMatrix.mk K C lb) j bad) fuel (wT b0 dZero 0) = some (.inl (wT b' z k')) ∧ SR (fun z => dOk z = true) (mmCell la lb K C i j) b0 z b' := fun i j Cells bad b0 hi hj => by
    refine sr_wh (enc := wT) (G := fun z => dOk z = true) (n := K) (fun k s => ?_) (fun s => ?_) (fun k s hk hs => ?_) fuel K 0 dZero b0 (by omega) (fuel_big (by omega)) dZero_ok
    · unfold F_spec_l2C_times_l3 wT
      simp only [Bool.not_true, Bool.and_false, cond_false]
    · unfold F_spec_l2C_times_l3 wT
      simp only [Int.lt_irrefl, decide_false, Bool.false_and, cond_false]
    · obtain ⟨z, b', h1, h2⟩ := dot_spec (X := fun k => la.getD (i * K + k) dZero) (Y := fun k => lb.getD (k * C + j) dZero) (fun _ => getD_ok ha _) (fun _ => getD_ok hb _) k false s hs
      obtain ⟨p, hp, h1⟩ := Option.bind_eq_some_iff.1 h1
      obtain ⟨q, hq, h1⟩ := Option.bind_eq_some_iff.1 h1
      refine ⟨z, b', ?_, h2⟩
      unfold F_spec_l2C_times_l3 wT
      simp only
      rw [decide_eq_true (show (k : Int) < (K : Int) by omega), ix hi hk hR hK, ix hk hj hK hC, gI (n := i * K + k) rfl (by rw [na]; exact ix_lt hi hk), gI (n := k * C + j) rfl (by rw [nb]; exact ix_lt hk hj)]
      simp only [Bool.not_false, Bool.and_self, cond_true, Option.bind_some]
      rw [show F_spec_l2C_mul (Tl2C.mk false) (la.getD (i * K + k) dZero) (lb.getD (k * C + j) dZero) = some p from hp]
      simp only [Option.bind_some]
      rw [show F_spec_l2C_add p.2 (TDyadic.mk (TRing.mk s.Num.A s.Num.B s.Num.C s.Num.D) s.Exp) p.1 = some q from hq]
      simp only [Option.bind_some]
      have := Option.some.inj h1
      simp only [sT, Prod.mk.injEq] at this
      obtain ⟨t0, t1, t2, t3, t4, t5⟩ := this
      rw [t0, t1, t2, t3, t4, t5, wr (a := (k : Int) + 1) (by omega)]
      rfl
  have l2 : ∀ (i : Nat) (Cells : List TDyadic) (bad b0 : Bool) (l : List TDyadic), i < R → okD l → l.length = i * C → ∃ z b', forN (F_spec_l2C_times_l2 (TMatrix.mk R K la) Cells i (TMatrix.mk K C lb) bad) C 0 (b0, l) = some (b', z) ∧ SR (fun z => okD z ∧ z.length = i * C + C) (forN (fun j l => (mmCell la lb K C i j).bind fun z => some (l ++ [z])) C 0 l) b0 z b' := fun i Cells bad b0 l hi hl hll => by
    have := sr_it (f := F_spec_l2C_times_l2 (TMatrix.mk R K la) Cells i (TMatrix.mk K C lb) bad) (enc := fun b (l : List TDyadic) => (b, l)) (G := fun j z => okD z ∧ z.length = i * C + j) (st := fun j l => (mmCell la lb K C i j).bind fun z => some (l ++ [z])) (n := C) (fun j b1 s hj hs => ?_) C 0 l b0 (by omega) ⟨hl, by omega⟩
    · rw [Nat.zero_add] at this; exact this
    · obtain ⟨z, b', k', h1, h2⟩ := l3 i j Cells bad b1 hi hj
      refine ⟨s ++ [z], b', ?_, h2.bind (SR.pure ⟨okD_snoc hs.1 h2.1, by simp; omega⟩)⟩
      unfold F_spec_l2C_times_l2
      simp only
      rw [show whX (F_spec_l2C_times_l3 (TMatrix.mk R K la) Cells i (TMatrix.mk K C lb) j bad) fuel (b1, 0, 0, 0, 0, 0, 0) = _ from h1]
      simp only [wT, Option.bind_some, orR]
      have := grid_len hi hj hR hC
      rw [chk_t (by omega)]
  obtain ⟨z, b', h1, h2⟩ := sr_it (f := F_spec_l2C_times_l1 (TMatrix.mk K C lb) (TMatrix.mk R K la)) (enc := fun b (l : List TDyadic) => (b, l)) (G := fun i z => okD z ∧ z.length = i * C) (st := fun i l => forN (fun j l => (mmCell la lb K C i j).bind fun z => some (l ++ [z])) C 0 l) (n := R) (fun i b1 s hi hs => by
    obtain ⟨z, b', h1, h2⟩ := l2 i s b1 b1 s hi hs.1 hs.2
    refine ⟨z, b', ?_, h2.mono (fun h => ⟨h.1, by rw [Nat.add_mul]; omega⟩)⟩
    unfold F_spec_l2C_times_l1
    simp only [Int.toNat_natCast]
    rw [chk_t (by omega), h1]; rfl) R 0 [] c (by omega) ⟨fun _ h => (by cases h), by simp⟩
  refine ⟨z, b', ?_, h2.mono (fun h => ⟨h.1, by simpa using h.2⟩)⟩
  unfold F_spec_l2C_times
  simp only [Int.toNat_natCast]
  rw [chk_t (by omega), show forN (F_spec_l2C_times_l1 (TMatrix.mk K C lb) (TMatrix.mk R K la)) R 0 ((cB c).bad, []) = _ from h1]
  rfl
def mR (R C : Nat) (o : Option (List TDyadic)) : TMatrix × Bool := match o with | some l => (TMatrix.mk R C l, true) | none => (TMatrix.mk 0 0 [], false)
theorem im_matrixOf {R C : Nat} {cell : Int → Int → Option (TDyadic × Bool)} {cellO : Nat → Nat → Option TDyadic} (dR' : dimB R = true) (dC : dimB C = true) (hR : R ≤ 32) (hC : C ≤ 32)
    (hcell : ∀ i j : Nat, i < R → j < C → cell i j = some (dR (cellO i j)) ∧ ∀ z, cellO i j = some z → dOk z = true) :
    F_impl_matrixOf R C cell = some (mR R C (gridO cellO R C)) ∧ ∀ l, gridO cellO R C = some l → okD l ∧ l.length = R * C := by
  have l2 : ∀ (i : Nat) (l : List TDyadic), i < R → okD l → l.length = i * C → forX (F_impl_matrixOf_l2 cell i) C 0 l = some (exO id (.rt (TMatrix.mk 0 0 [], false)) (forN (fun j l => (cellO i j).bind fun z => some (l ++ [z])) C 0 l)) ∧
      ∀ z, forN (fun j l => (cellO i j).bind fun z => some (l ++ [z])) C 0 l = some z → okD z ∧ z.length = i * C + C := fun i l hi hl hll => by
    have := im_it (g := F_impl_matrixOf_l2 cell i) (enc := id) (G := fun j z => okD z ∧ z.length = i * C + j) (st := fun j l => (cellO i j).bind fun z => some (l ++ [z])) (R := Ex.rt (TMatrix.mk 0 0 [], false)) (n := C) (fun j s hj hs => ?_) C 0 l (by omega) ⟨hl, by omega⟩
    · rw [Nat.zero_add] at this; exact this
    · obtain ⟨h1, h2⟩ := hcell i j hi hj
      unfold F_impl_matrixOf_l2
      simp only [id, h1, Option.bind_some]
      cases hc : cellO i j with
      | none => exact ⟨rfl, fun z hz => by cases hz⟩
      | some z =>
        simp only [dR, Bool.not_true, cond_false, Option.bind_some]
        have := grid_len hi hj hR hC
        rw [chk_t (by omega)]
        exact ⟨rfl, fun z' hz => by cases hz; exact ⟨okD_snoc hs.1 (h2 z hc), by simp; omega⟩⟩
  obtain ⟨h1, h2⟩ := im_it (g := F_impl_matrixOf_l1 C cell) (enc := id) (G := fun i z => okD z ∧ z.length = i * C) (st := fun i l => forN (fun j l => (cellO i j).bind fun z => some (l ++ [z])) C 0 l) (R := (TMatrix.mk 0 0 [], false)) (n := R) (fun i s hi hs => by
    obtain ⟨h1, h2⟩ := l2 i s hi hs.1 hs.2
    unfold F_impl_matrixOf_l1
    simp only [id, Int.toNat_natCast]
    rw [chk_t (by omega), h1]
    cases hc : forN (fun j l => (cellO i j).bind fun z => some (l ++ [z])) C 0 s with
    | none => exact ⟨rfl, fun z hz => by cases hz⟩
    | some z => exact ⟨rfl, fun z' hz => by cases hz; obtain ⟨q1, q2⟩ := h2 z hc; exact ⟨q1, by rw [Nat.add_mul]; omega⟩⟩) R 0 [] (by omega) ⟨fun _ h => (by cases h), by simp⟩
  refine ⟨?_, fun l hl => by have := h2 l hl; simpa using this⟩
  unfold F_impl_matrixOf
  rw [impl_dim, impl_dim, dR', dC]
  simp only [Option.bind_some, gb, Bool.not_true, Bool.not_false, cond_true, Bool.or_self, cond_false, Int.toNat_natCast]
  rw [chk_t (by omega), show forX (F_impl_matrixOf_l1 C cell) R 0 [] = _ from h1]
  unfold gridO
  cases forN (fun i l => forN (fun j l => (cellO i j).bind fun z => some (l ++ [z])) C 0 l) R 0 [] <;> rfl
def dConj (x : TDyadic) : TDyadic := TDyadic.mk (TRing.mk x.Num.A (-x.Num.D) (-x.Num.C) (-x.Num.B)) x.Exp
theorem tm2 (a : Int) : (Int.tmod a 2 == 0) = decide ((2 : Int) ∣ a) := by
  rw [Bool.eq_iff_iff, beq_iff_eq, decide_eq_true_eq, Int.dvd_iff_tmod_eq_zero]
theorem conj_ok {x : TDyadic} (h : dOk x = true) : dOk (dConj x) = true := by
  have hr := (d_parts h).1
  have hr2 := hr
  rw [rOk_iff] at hr
  unfold dOk at h ⊢
  have e1 : rOk (dConj x).Num = true := by rw [rOk_iff]; unfold dConj; simp only; omega
  have e2 : rEven (dConj x).Num = rEven x.Num := by
    unfold rEven dConj
    simp only
    rw [wr (a := x.Num.A + -x.Num.C) (by omega), wr (a := -x.Num.D + -x.Num.B) (by omega), wr (a := x.Num.A + x.Num.C) (by omega), wr (a := x.Num.B + x.Num.D) (by omega), tm2, tm2, tm2, tm2]
    congr 1 <;> (rw [Bool.eq_iff_iff, decide_eq_true_eq, decide_eq_true_eq]; omega)
  rw [e1, e2]
  rw [hr2] at h
  exact h
theorem spec_conj {x : TDyadic} (h : dOk x = true) : F_spec_l2Conj x = some (dConj x) := by
  have hr := (d_parts h).1
  rw [rOk_iff] at hr
  unfold F_spec_l2Conj F_spec_l1Conj
  rw [wr (a := -x.Num.D) (by omega), wr (a := -x.Num.C) (by omega), wr (a := -x.Num.B) (by omega)]
  rfl
theorem forN_eq {σ : Type} {f g : Nat → σ → Option σ} {G : Nat → σ → Prop} {n : Nat} (h : ∀ k s, k < n → G k s → f k s = g k s ∧ ∀ z, g k s = some z → G (k + 1) z) :
    ∀ (m i : Nat) (s : σ), i + m ≤ n → G i s → forN f m i s = forN g m i s
  | 0, _, _, _, _ => rfl
  | m + 1, i, s, hm, hG => by
    obtain ⟨h1, h2⟩ := h i s (by omega) hG
    simp only [forN, h1]
    cases hs : g i s with
    | none => rfl
    | some z => simp only [Option.bind_some]; exact forN_eq h m (i + 1) z (by omega) (h2 z hs)
def adO (l : List TDyadic) (R C : Nat) : Option (List TDyadic) := gridO (fun i j => some (dConj (l.getD (j * C + i) dZero))) C R
/-- A row of cells that are all there. -/
theorem grid_pure {f : Nat → Nat → TDyadic} (R C : Nat) (hf : ∀ i j, i < R → j < C → dOk (f i j) = true) : ∃ l, gridO (fun i j => some (f i j)) R C = some l ∧ okD l ∧ l.length = R * C := by
  obtain ⟨l, h1, h2, h3⟩ := forN_inv (f := fun i l => forN (fun j l => (some (f i j)).bind fun z => some (l ++ [z])) C 0 l) (fun i z => okD z ∧ z.length = i * C) R 0 [] ⟨fun _ h => (by cases h), by simp⟩ (fun i s _ hi hs => by
    obtain ⟨l, h1, h2, h3⟩ := forN_inv (f := fun j l => (some (f i j)).bind fun z => some (l ++ [z])) (fun j z => okD z ∧ z.length = i * C + j) C 0 s ⟨hs.1, by rw [hs.2]; rfl⟩ (fun j s _ hj hs => ⟨_, rfl, okD_snoc hs.1 (hf i j (by omega) (by omega)), by simp [hs.2]; omega⟩)
    exact ⟨l, h1, h2, by rw [h3, Nat.add_mul]; omega⟩)
  exact ⟨l, h1, h2, by simpa using h3⟩
theorem spec_adj {R C : Nat} {l : List TDyadic} (hl : okD l) (ll : l.length = R * C) (hR : R ≤ 32) (hC : C ≤ 32) : F_spec_l3Adj (TMatrix.mk R C l) = (adO l R C).map (TMatrix.mk C R) := by
  unfold F_spec_l3Adj adO gridO
  simp only [Int.toNat_natCast]
  rw [chk_t (by omega)]
  have hin : ∀ (j : Nat) (s Cells : List TDyadic), j < C → s.length = j * R → forN (F_spec_l3Adj_l2 (TMatrix.mk R C l) Cells j) R 0 s = forN (fun i l' => (some (dConj (l.getD (i * C + j) dZero))).bind fun z => some (l' ++ [z])) R 0 s := fun j s Cells hj hs =>
    forN_eq (G := fun i (z : List TDyadic) => z.length = j * R + i) (n := R) (fun i z hi hz => by
      unfold F_spec_l3Adj_l2
      simp only
      rw [ix hi hj hR hC, gI (n := i * C + j) rfl (by rw [ll]; exact ix_lt hi hj)]
      simp only [Option.bind_some, spec_conj (getD_ok hl _)]
      have := grid_len hj hi hC hR
      rw [chk_t (by omega)]
      exact ⟨rfl, fun z' h => by cases h; simp [hz]; omega⟩) R 0 s (by omega) (by omega)
  rw [forN_eq (f := F_spec_l3Adj_l1 (TMatrix.mk R C l)) (g := fun j l' => forN (fun i l' => (some (dConj (l.getD (i * C + j) dZero))).bind fun z => some (l' ++ [z])) R 0 l') (G := fun j (z : List TDyadic) => z.length = j * R) (n := C) (fun j z hj hz => by
    unfold F_spec_l3Adj_l1
    simp only [Int.toNat_natCast]
    rw [chk_t (by omega), hin j z z hj hz]
    constructor
    · cases forN (fun i l' => (some (dConj (l.getD (i * C + j) dZero))).bind fun z => some (l' ++ [z])) R 0 z <;> rfl
    · intro z' h
      obtain ⟨l', h1, h2⟩ := forN_inv (f := fun i l' => (some (dConj (l.getD (i * C + j) dZero))).bind fun z => some (l' ++ [z])) (fun i w => w.length = j * R + i) R 0 z (by omega) (fun i s _ _ hs => ⟨_, rfl, by simp [hs]; omega⟩)
      rw [h1] at h; cases h
      rw [h2, Nat.add_mul]; omega) C 0 [] (by omega) (by simp)]
  cases forN (fun j l' => forN (fun i l' => (some (dConj (l.getD (i * C + j) dZero))).bind fun z => some (l' ++ [z])) R 0 l') C 0 [] <;> rfl
theorem adj_some {R C : Nat} {l : List TDyadic} (hl : okD l) : ∃ l', adO l R C = some l' ∧ okD l' ∧ l'.length = C * R := grid_pure C R (fun i j _ _ => conj_ok (getD_ok hl _))

def unitL (n : Nat) : List TDyadic := (List.range (n * n)).map fun p => if p / n = p % n then dOne else dZero
theorem unit_spec : ∀ n ∈ [1, 2, 4, 8, 16, 32], F_spec_l3Unit ((n : Nat) : Int) = some (TMatrix.mk (n : Nat) (n : Nat) (unitL n)) := by decide +kernel
theorem unit_len (n : Nat) : (unitL n).length = n * n := by simp [unitL]
theorem unit_ok (n : Nat) : okD (unitL n) := fun z hz => by
  simp only [unitL, List.mem_map] at hz
  obtain ⟨p, _, rfl⟩ := hz
  split
  · decide
  · decide
theorem impl_leq {l l' : List TDyadic} (hl : l.length ≤ 9223372036854775807) : F_slices_Equal_impl_Dyadic_impl_Dyadic l l' = some (decide (l = l')) := by
  unfold F_slices_Equal_impl_Dyadic_impl_Dyadic
  by_cases hn : l.length = l'.length
  · have e : ((l.length : Int) != (l'.length : Int)) = false := by simp [hn]
    rw [e, cond_false, chk_t hl, forX_same (f := F_slices_Equal_impl_Dyadic_impl_Dyadic_l1 l l') (l := l) (l' := l') (q := false) hn (fun i x y hx hy => by
      unfold F_slices_Equal_impl_Dyadic_impl_Dyadic_l1
      simp only [getI_nat, hx, hy, Option.bind_some, dy_eq, bs])]
    by_cases h : l = l'
    · rw [if_pos h, decide_eq_true h]; rfl
    · rw [if_neg h, decide_eq_false h]; rfl
  · have e : ((l.length : Int) != (l'.length : Int)) = true := by simp; omega
    rw [e, decide_eq_false (fun h => hn (by rw [h]))]; rfl
def rIt : Nat → TRing → TRing
  | 0, x => x
  | k + 1, x => rIt k (rRoot x)
def rPlus (x y : TRing) : TRing := TRing.mk (x.A + y.A) (x.B + y.B) (x.C + y.C) (x.D + y.D)
theorem root_plus (x y : TRing) : rRoot (rPlus x y) = rPlus (rRoot x) (rRoot y) := by
  unfold rRoot rPlus
  simp only [TRing.mk.injEq]
  omega
theorem rIt_plus : ∀ (k : Nat) (x y : TRing), rIt k (rPlus x y) = rPlus (rIt k x) (rIt k y)
  | 0, _, _ => rfl
  | k + 1, x, y => by
    show rIt k (rRoot (rPlus x y)) = _
    rw [root_plus, rIt_plus k]; rfl
theorem rIt_add (m : Nat) : ∀ (n : Nat) (x : TRing), rIt (m + n) x = rIt m (rIt n x)
  | 0, _ => rfl
  | n + 1, x => rIt_add m n (rRoot x)
theorem root_half {x : TRing} (h : rOk x = true) (he : rEven x = true) : rRoot (rHalf x) = x := by
  rw [rOk_iff] at h
  unfold rEven at he
  rw [wr (by omega), wr (by omega), Bool.and_eq_true, beq_iff_eq, beq_iff_eq] at he
  obtain ⟨m, hm⟩ := Int.dvd_of_tmod_eq_zero he.1
  obtain ⟨n, hn⟩ := Int.dvd_of_tmod_eq_zero he.2
  have t : ∀ {a b : Int}, a = 2 * b → Int.tdiv a 2 = b := fun h => by rw [h]; exact Int.mul_tdiv_cancel_left _ (by decide)
  unfold rHalf rRoot
  rw [t (show x.B - x.D = 2 * (n - x.D) by omega), t hm, t hn, t (show x.C - x.A = 2 * (m - x.A) by omega)]
  obtain ⟨A, B, C, D⟩ := x
  simp only [TRing.mk.injEq] at *
  omega
theorem low_val {x : TRing} {e : Int} (hx : rOk x = true) (he : 0 ≤ e ∧ e ≤ 60) {z : TDyadic} {ok : Bool} (h : F_impl_DyadicOf x e = some (z, ok)) : 0 ≤ z.Exp ∧ z.Exp ≤ e ∧ rIt (e - z.Exp).toNat z.Num = x := by
  obtain ⟨⟨e', A, B, C, D⟩, h1, h2, h3, h4, h5, h6⟩ := whX2_inv (f := F_impl_DyadicOf_l1) (g := F_impl_DyadicOf_l1) (fun s => rOk (TRing.mk s.2.1 s.2.2.1 s.2.2.2.1 s.2.2.2.2) = true ∧ 0 ≤ s.1 ∧ s.1 ≤ e ∧ rIt (e - s.1).toNat (TRing.mk s.2.1 s.2.2.1 s.2.2.2.1 s.2.2.2.2) = x)
    (fun s => rOk (TRing.mk s.2.1 s.2.2.1 s.2.2.2.1 s.2.2.2.2) = true ∧ 0 ≤ s.1 ∧ s.1 ≤ e ∧ rIt (e - s.1).toNat (TRing.mk s.2.1 s.2.2.1 s.2.2.2.1 s.2.2.2.2) = x) (fun s => s.1.toNat)
    (fun s ⟨hr, h0, h60, hv⟩ => by
      obtain ⟨e1, A, B, C, D⟩ := s
      simp only at hr h0 h60 hv
      unfold F_impl_DyadicOf_l1
      simp only [impl_even, Option.bind_some, gb]
      by_cases hpos : 0 < e1
      · rw [decide_eq_true hpos]
        cases hev : rEven (TRing.mk A B C D) with
        | true =>
          simp only [cond_true, Bool.and_self, impl_half hr hev, Option.bind_some]
          refine .inl ⟨_, rfl, rfl, ⟨half_ok hr, ?_⟩, ?_⟩
          · show 0 ≤ IntKind.i64.wrap (e1 - 1) ∧ IntKind.i64.wrap (e1 - 1) ≤ e ∧ rIt (e - IntKind.i64.wrap (e1 - 1)).toNat (rHalf (TRing.mk A B C D)) = x
            rw [wr (by omega)]
            refine ⟨by omega, by omega, ?_⟩
            rw [show (e - (e1 - 1)).toNat = (e - e1).toNat + 1 by omega]
            show rIt (e - e1).toNat (rRoot (rHalf (TRing.mk A B C D))) = x
            rw [root_half hr hev]; exact hv
          · show (IntKind.i64.wrap (e1 - 1)).toNat < e1.toNat
            rw [wr (by omega)]; omega
        | false =>
          simp only [cond_true, Bool.and_false, cond_false]
          exact .inr ⟨_, rfl, rfl, hr, h0, h60, hv⟩
      · rw [decide_eq_false hpos]
        simp only [cond_false, Bool.false_and]
        exact .inr ⟨_, rfl, rfl, hr, h0, h60, hv⟩)
    fuel (e, x.A, x.B, x.C, x.D) ⟨hx, he.1, Int.le_refl e, by simp only [Int.sub_self]; rfl⟩ (fuel_big (by simp only; omega))
  unfold F_impl_DyadicOf F_impl_within at h
  simp only [impl_ring, hx, Option.bind_some, gb, Bool.not_true, Bool.not_false, cond_true, Bool.false_or] at h
  rw [decide_eq_true he.1, decide_eq_true he.2] at h
  simp only [Bool.and_self, Bool.not_true, cond_false] at h
  rw [h1] at h
  simp only [Option.bind_some, orR, Option.some.injEq, Prod.mk.injEq] at h
  obtain ⟨rfl, _⟩ := h
  exact ⟨h4, h5, h6⟩
theorem raise_loop {E : Int} (hE : E ≤ 60) : ∀ (k : Nat) (x : TRing) (e : Int), rOk x = true → 0 ≤ e → e ≤ E → (E - e).toNat < k →
    ∃ a oa e', whX (F_impl_raised_l1 E) k (iTup x true e) = some (.inl (iTup a oa e')) ∧ rOk a = true ∧ (oa = true → a = rIt (E - e).toNat x) ∧ ((∀ j, j ≤ (E - e).toNat → rOk (rIt j x) = true) → oa = true)
  | 0, _, _, _, _, _, hk => absurd hk (Nat.not_lt_zero _)
  | k + 1, x, e, hx, h0, h1, hk => by
    have hg := impl_raise_step (E := E) hx h0 (by omega) true
    by_cases hlt : e < E
    · have hn : (E - e).toNat = (E - (e + 1)).toNat + 1 := by omega
      simp only [decide_eq_true hlt, cond_true, Bool.true_and] at hg
      cases hr : rOk (rRoot x) with
      | true =>
        simp only [hr, if_true] at hg
        obtain ⟨a, oa, e', e1, e2, e3, e4⟩ := raise_loop hE k (rRoot x) (e + 1) hr (by omega) (by omega) (by omega)
        refine ⟨a, oa, e', by simp only [whX, hg, Option.bind_some]; exact e1, e2, fun h => by rw [hn]; exact e3 h, fun h => e4 (fun j hj => ?_)⟩
        have := h (j + 1) (by omega)
        exact this
      | false =>
        simp only [hr, Bool.false_eq_true, if_false] at hg
        refine ⟨rZero, false, e + 1, ?_, rZero_ok, (fun h => nomatch h), fun h => ?_⟩
        · cases k with
          | zero => omega
          | succ k =>
            have hg2 := impl_raise_step (E := E) rZero_ok (show 0 ≤ e + 1 by omega) (by omega) false
            simp only [Bool.and_false, cond_false] at hg2
            simp only [whX, hg, Option.bind_some, hg2]
        · have := h 1 (by omega)
          have h2 : rOk (rRoot x) = true := this
          exact absurd (hr.symm.trans h2) (by decide)
    · simp only [decide_eq_false hlt, cond_false, Bool.false_and] at hg
      have : e = E := by omega
      subst this
      exact ⟨x, true, e, by simp only [whX, hg, Option.bind_some], hx, fun _ => by simp only [Int.sub_self]; rfl, fun _ => rfl⟩
theorem raised_some {x : TDyadic} (hx : dOk x = true) {E : Int} (h1 : x.Exp ≤ E) (h2 : E ≤ 60) : ∃ a oa, F_impl_raised x E = some (a, oa) ∧ rOk a = true ∧ (oa = true → a = rIt (E - x.Exp).toNat x.Num) ∧ ((∀ j, j ≤ (E - x.Exp).toNat → rOk (rIt j x.Num) = true) → oa = true) := by
  obtain ⟨x1, x2, x3⟩ := d_parts hx
  obtain ⟨a, oa, e', e1, e2, e3, e4⟩ := raise_loop h2 fuel x.Num x.Exp x1 x2 h1 (fuel_big (by omega))
  exact ⟨a, oa, raised_of e1, e2, e3, e4⟩
def vOf (x : TDyadic) : TRing := rIt (60 - x.Exp).toNat x.Num
theorem da_val {x y z : TDyadic} (hx : dOk x = true) (hy : dOk y = true) (h : DA x y = some z) : vOf z = rPlus (vOf x) (vOf y) := by
  obtain ⟨x1, x2, x3⟩ := d_parts hx
  obtain ⟨y1, y2, y3⟩ := d_parts hy
  generalize hE : (if x.Exp < y.Exp then y.Exp else x.Exp) = E
  have b1 : x.Exp ≤ E := by rw [← hE]; split <;> omega
  have b2 : y.Exp ≤ E := by rw [← hE]; split <;> omega
  have b3 : E ≤ 60 := by rw [← hE]; split <;> omega
  obtain ⟨a, oa, a1, a2, a3, _⟩ := raised_some hx b1 b3
  obtain ⟨c, oc, c1, c2, c3, _⟩ := raised_some hy b2 b3
  have hc := comb_add hx hy hE a1 c1 a2 c2
  unfold DA at h
  rw [hc] at h
  cases hcond : oa && oc && rOk (rAdd a c) with
  | false => rw [hcond] at h; simp at h
  | true =>
    rw [hcond] at h
    simp only [Bool.and_eq_true] at hcond
    obtain ⟨⟨rfl, rfl⟩, hr⟩ := hcond
    simp only [cond_true] at h
    obtain ⟨p, hp, hq⟩ := Option.bind_eq_some_iff.1 h
    obtain ⟨z', ok⟩ := p
    cases ok with
    | false => simp at hq
    | true =>
      simp only [if_true, Option.some.injEq] at hq
      subst hq
      obtain ⟨l1, l2, l3⟩ := low_val hr (e := E) ⟨by omega, b3⟩ hp
      have hadd : rAdd a c = rPlus a c := by
        rw [rOk_iff] at a2 c2
        show TRing.mk (IntKind.i64.wrap (a.A + c.A)) (IntKind.i64.wrap (a.B + c.B)) (IntKind.i64.wrap (a.C + c.C)) (IntKind.i64.wrap (a.D + c.D)) = _
        rw [wr (a := a.A + c.A) (by omega), wr (a := a.B + c.B) (by omega), wr (a := a.C + c.C) (by omega), wr (a := a.D + c.D) (by omega)]
        rfl
      unfold vOf
      rw [show (60 - z'.Exp).toNat = (60 - E).toNat + (E - z'.Exp).toNat by omega, rIt_add, l3, hadd, rIt_plus, a3 rfl, c3 rfl, ← rIt_add, ← rIt_add,
        show (60 - E).toNat + (E - x.Exp).toNat = (60 - x.Exp).toNat by omega, show (60 - E).toNat + (E - y.Exp).toNat = (60 - y.Exp).toNat by omega]
theorem dm_val {x y z : TDyadic} (hx : dOk x = true) (hy : dOk y = true) (h : DM x y = some z) : x.Exp + y.Exp ≤ 60 ∧ vOf z = rIt (60 - (x.Exp + y.Exp)).toNat (rMul x.Num y.Num) := by
  obtain ⟨x1, x2, x3⟩ := d_parts hx
  obtain ⟨y1, y2, y3⟩ := d_parts hy
  have hw : IntKind.i64.wrap (x.Exp + y.Exp) = x.Exp + y.Exp := wr (by omega)
  have hi : ∀ q : TRing × Bool, F_impl_MulRing x.Num y.Num = some q → F_impl_MulDyadic x y = (bif !q.2 then some (dZero, false) else (F_impl_DyadicOf q.1 (x.Exp + y.Exp)).bind fun p => some (p.1, p.2)) := fun q hq => by
    unfold F_impl_MulDyadic
    rw [hq]
    simp only [Option.bind_some, impl_dyadic, hx, hy, gb, Bool.not_true, Bool.not_false, cond_true, Bool.false_or, hw]
    rfl
  unfold DM at h
  rw [hi _ (impl_rmul x1 y1)] at h
  cases hr : rOk (rMul x.Num y.Num) with
  | false => rw [hr] at h; simp at h
  | true =>
    rw [hr] at h
    simp only [if_true, Bool.not_true, cond_false] at h
    by_cases he : x.Exp + y.Exp ≤ 60
    · refine ⟨he, ?_⟩
      obtain ⟨p, hp, hq⟩ := Option.bind_eq_some_iff.1 h
      obtain ⟨p', hp', hp2⟩ := Option.bind_eq_some_iff.1 hp
      obtain ⟨z', ok⟩ := p'
      cases hp2
      cases ok with
      | false => simp at hq
      | true =>
        simp only [if_true, Option.some.injEq] at hq
        subst hq
        obtain ⟨l1, l2, l3⟩ := low_val hr (e := x.Exp + y.Exp) ⟨by omega, he⟩ hp'
        unfold vOf
        rw [show (60 - z'.Exp).toNat = (60 - (x.Exp + y.Exp)).toNat + (x.Exp + y.Exp - z'.Exp).toNat by omega, rIt_add, l3]
    · unfold F_impl_DyadicOf F_impl_within at h
      simp only [impl_ring, hr, Option.bind_some, gb, Bool.not_true, Bool.not_false, cond_true, Bool.false_or] at h
      rw [decide_eq_false he] at h
      simp at h
/-- Numbers that are real. -/
def rReal (A B : Int) : TRing := TRing.mk A B 0 (-B)
theorem real_root (A B : Int) : rRoot (rReal A B) = rReal (2 * B) A := by
  unfold rRoot rReal
  simp only [TRing.mk.injEq]
  omega
theorem real_it2 : ∀ (m : Nat) (A B : Int), rIt (2 * m) (rReal A B) = rReal (2 ^ m * A) (2 ^ m * B)
  | 0, A, B => by simp [rIt]
  | m + 1, A, B => by
    show rIt (2 * m) (rRoot (rRoot (rReal A B))) = _
    rw [real_root, real_root, real_it2 m, Int.pow_succ, Int.mul_assoc, Int.mul_assoc]
theorem real_it : ∀ (j : Nat) (A B : Int), ∃ A' B', rIt j (rReal A B) = rReal A' B' ∧ A' * A' + 2 * (B' * B') = 2 ^ j * (A * A + 2 * (B * B)) ∧ (1 ≤ j → A' % 2 = 0)
  | 0, A, B => ⟨A, B, rfl, by simp, fun h => absurd h (by omega)⟩
  | j + 1, A, B => by
    obtain ⟨A', B', h1, h2, h3⟩ := real_it j (2 * B) A
    refine ⟨A', B', ?_, ?_, fun _ => ?_⟩
    · show rIt j (rRoot (rReal A B)) = _
      rw [real_root]; exact h1
    · have : 2 * B * (2 * B) = 4 * (B * B) := by rw [Int.mul_assoc, Int.mul_left_comm B 2 B, ← Int.mul_assoc]; rfl
      have e : 2 * B * (2 * B) + 2 * (A * A) = 2 * (A * A + 2 * (B * B)) := by rw [this]; omega
      rw [h2, e, Int.pow_succ, Int.mul_assoc]
    · cases j with
      | zero =>
        have : rReal (2 * B) A = rReal A' B' := h1
        simp only [rReal, TRing.mk.injEq] at this
        omega
      | succ j => exact h3 (by omega)
theorem sq_le {a N M : Int} (hM : 0 ≤ M) (h : a * a ≤ N) (hN : N < M * M) : -M ≤ a ∧ a ≤ M := by
  constructor
  · rcases Int.lt_or_le a (-M) with h1 | h1
    · have := Int.mul_le_mul (a := M) (b := M) (c := -a) (d := -a) (by omega) (by omega) hM (by omega)
      rw [Int.neg_mul_neg] at this
      omega
    · exact h1
  · rcases Int.lt_or_le M a with h1 | h1
    · have := Int.mul_le_mul (a := M) (b := M) (c := a) (d := a) (by omega) (by omega) hM (by omega)
      omega
    · exact h1
theorem sq_nonneg (a : Int) : 0 ≤ a * a := by
  rcases Int.le_total 0 a with h | h
  · exact Int.mul_nonneg h h
  · have := Int.mul_nonneg (show 0 ≤ -a by omega) (show 0 ≤ -a by omega)
    rwa [Int.neg_mul_neg] at this
theorem real_sq {A B : Int} (h : rOk (rReal A B) = true) : rMul (rReal A B) (rReal A B) = rReal (A * A + 2 * (B * B)) (2 * (A * B)) := by
  rw [rOk_iff] at h
  simp only [rReal] at h
  have bnd : ∀ {a b : Int}, -1000000000 ≤ a → a ≤ 1000000000 → -1000000000 ≤ b → b ≤ 1000000000 → -1000000000000000000 ≤ a * b ∧ a * b ≤ 1000000000000000000 := fun {a b} h1 h2 h3 h4 => by
    have e1 := Int.mul_le_mul (a := a + 1000000000) (b := b + 1000000000) (c := 2000000000) (d := 2000000000) (by omega) (by omega) (by omega) (by omega)
    have e2 := Int.mul_nonneg (show 0 ≤ a + 1000000000 by omega) (show 0 ≤ b + 1000000000 by omega)
    have e3 := Int.mul_nonneg (show 0 ≤ a + 1000000000 by omega) (show 0 ≤ 1000000000 - b by omega)
    have e4 := Int.mul_nonneg (show 0 ≤ 1000000000 - a by omega) (show 0 ≤ b + 1000000000 by omega)
    have e5 := Int.mul_nonneg (show 0 ≤ 1000000000 - a by omega) (show 0 ≤ 1000000000 - b by omega)
    simp only [Int.add_mul, Int.mul_add, Int.sub_mul, Int.mul_sub] at e2 e3 e4 e5
    omega
  have p := bnd h.1.1.1 h.1.1.2 h.1.1.1 h.1.1.2
  have q := bnd h.1.1.1 h.1.1.2 h.1.2.1 h.1.2.2
  have r := bnd h.1.2.1 h.1.2.2 h.1.2.1 h.1.2.2
  show TRing.mk _ _ _ _ = _
  simp only [rReal]
  have c1 : B * A = A * B := Int.mul_comm B A
  have c2 : B * -B = -(B * B) := Int.mul_neg B B
  have c3 : -B * B = -(B * B) := Int.neg_mul B B
  have c4 : -B * -B = B * B := Int.neg_mul_neg B B
  have c5 : A * -B = -(A * B) := Int.mul_neg A B
  have c6 : -B * A = -(A * B) := by rw [Int.neg_mul, c1]
  simp only [c1, c2, c3, c4, c5, c6, Int.mul_zero, Int.zero_mul]
  generalize A * A = P at *
  generalize A * B = Q at *
  generalize B * B = R at *
  simp (disch := omega) only [wr]
  simp only [TRing.mk.injEq]
  omega

/-- What a sum is, taken by eight. -/
def m8 (x : Int) : Int := Int.tmod (IntKind.i64.wrap ((Int.tmod x 8) + 8)) 8
/-- The two tables of sums say the same: B as it runs, S taken by eight, with a bound. -/
def Same (N : Nat) (z : Int) (B S : List Int) : Prop :=
  B.length = N ∧ S.length = 32 ∧ N ≤ 32 ∧ (∀ (j : Nat) (x : Int), B[j]? = some x → -z ≤ x ∧ x ≤ z ∧ S[j]? = some (x % 8)) ∧ ∀ j, N ≤ j → j < 32 → S[j]? = some 0
theorem Same.mono {N : Nat} {z z' : Int} {B S : List Int} (h : Same N z B S) (hz : z ≤ z') : Same N z' B S :=
  ⟨h.1, h.2.1, h.2.2.1, fun j x hx => ⟨by have := (h.2.2.2.1 j x hx).1; omega, Int.le_trans (h.2.2.2.1 j x hx).2.1 hz, (h.2.2.2.1 j x hx).2.2⟩, h.2.2.2.2⟩
/-- The rows of a map over n wires, each a number below N. -/
def RowsOk (n N : Nat) (R : List Int) : Prop := R.length = n ∧ ∀ x ∈ R, 0 ≤ x ∧ x < N
theorem RowsOk.set {n N : Nat} {R : List Int} (h : RowsOk n N R) (i : Nat) {x : Nat} (hx : x < N) : RowsOk n N (R.set i (x : Int)) :=
  ⟨by rw [List.length_set]; exact h.1, fun y hy => by
    rcases List.mem_or_eq_of_mem_set hy with hy | rfl
    · exact h.2 y hy
    · omega⟩
theorem fuelB {n : Nat} (h : n < 18446744073709551616) : n < fuel := h
/-- Small numbers as words. -/
def cI (l : List Nat) : List Int := l.map fun (x : Nat) => (x : Int)
theorem wrapU {a : Nat} (h : a < 18446744073709551616) : IntKind.u64.wrap (a : Int) = (a : Int) := by
  simp [IntKind.wrap, IntKind.signed, IntKind.bits]
  omega
theorem shr_u (x k : Nat) (hk : k ≤ 64) : shrK .u64 (x : Int) (k : Int) = ((x / 2 ^ k : Nat) : Int) := by
  unfold shrK
  rw [Int.toNat_natCast, Nat.min_eq_left (show k ≤ IntKind.bits .u64 from hk), Int.ofNat_fdiv]
  simp
theorem and_u {a b : Nat} (ha : a < 18446744073709551616) (hb : b < 18446744073709551616) : bits .and .u64 (a : Int) (b : Int) = ((a &&& b : Nat) : Int) := by
  have h1 : a &&& b ≤ a := Nat.and_le_left
  show IntKind.u64.wrap ((BitVec.ofInt 64 (a : Int) &&& BitVec.ofInt 64 (b : Int)).toNat : Int) = _
  have e1 : BitVec.ofInt 64 (a : Int) = BitVec.ofNat 64 a := rfl
  have e2 : BitVec.ofInt 64 (b : Int) = BitVec.ofNat 64 b := rfl
  rw [e1, e2, BitVec.toNat_and, BitVec.toNat_ofNat, BitVec.toNat_ofNat, Nat.mod_eq_of_lt (by omega), Nat.mod_eq_of_lt (by omega)]
  exact wrapU (by omega)
def val : List Nat → Nat
  | [] => 0
  | d :: t => d + 16 * val t
def a4 (d : Nat) : Nat := (d / 2 &&& 5) + (d &&& 5)
def b4 (d : Nat) : Nat := (d / 4 &&& 3) + (d &&& 3)
def c4 (d : Nat) : Nat := b4 (a4 d)
def NOk (n : Nat) (l : List Nat) : Prop := l.length = n ∧ ∀ x ∈ l, x < 2 ^ n
def GsOk (n : Nat) (out : List TGate) : Prop := ∀ g ∈ out, ∃ a b : Nat, a < n ∧ b < n ∧ g = TGate.mk 9 (a : Int) (b : Int)
def EOk (n b : Nat) (s : List Int × List TGate) : Prop := ∃ l, s.1 = cI l ∧ NOk n l ∧ GsOk n s.2 ∧ s.2.length ≤ b
theorem EOk.mono {n b b' : Nat} {s : List Int × List TGate} (h : EOk n b s) (hb : b ≤ b') : EOk n b' s := by
  obtain ⟨l, h1, h2, h3, h4⟩ := h
  exact ⟨l, h1, h2, h3, by omega⟩
def eMul (x y : TRing) : TRing := TRing.mk (x.A * y.A - x.B * y.D - x.C * y.C - x.D * y.B) (x.A * y.B + x.B * y.A - x.C * y.D - x.D * y.C) (x.A * y.C + x.B * y.B + x.C * y.A - x.D * y.D) (x.A * y.D + x.B * y.C + x.C * y.B + x.D * y.A)
theorem prod_bnd {a b : Int} (h1 : -1000000000 ≤ a ∧ a ≤ 1000000000) (h3 : -1000000000 ≤ b ∧ b ≤ 1000000000) : -1000000000000000000 ≤ a * b ∧ a * b ≤ 1000000000000000000 := by
  have e2 := Int.mul_nonneg (show 0 ≤ a + 1000000000 by omega) (show 0 ≤ b + 1000000000 by omega)
  have e3 := Int.mul_nonneg (show 0 ≤ a + 1000000000 by omega) (show 0 ≤ 1000000000 - b by omega)
  have e4 := Int.mul_nonneg (show 0 ≤ 1000000000 - a by omega) (show 0 ≤ b + 1000000000 by omega)
  have e5 := Int.mul_nonneg (show 0 ≤ 1000000000 - a by omega) (show 0 ≤ 1000000000 - b by omega)
  simp only [Int.add_mul, Int.mul_add, Int.sub_mul, Int.mul_sub] at e2 e3 e4 e5
  omega
theorem mul_exact {x y : TRing} (hx : rOk x = true) (hy : rOk y = true) : rMul x y = eMul x y := by
  rw [rOk_iff] at hx hy
  obtain ⟨⟨a, b⟩, c, d⟩ := hx
  obtain ⟨⟨a', b'⟩, c', d'⟩ := hy
  have p1 := prod_bnd a a'; have p2 := prod_bnd a b'; have p3 := prod_bnd a c'; have p4 := prod_bnd a d'
  have q1 := prod_bnd b a'; have q2 := prod_bnd b b'; have q3 := prod_bnd b c'; have q4 := prod_bnd b d'
  have r1 := prod_bnd c a'; have r2 := prod_bnd c b'; have r3 := prod_bnd c c'; have r4 := prod_bnd c d'
  have s1 := prod_bnd d a'; have s2 := prod_bnd d b'; have s3 := prod_bnd d c'; have s4 := prod_bnd d d'
  clear a b c d a' b' c' d'
  unfold eMul
  show TRing.mk _ _ _ _ = _
  generalize x.A * y.A = P1 at *; generalize x.A * y.B = P2 at *; generalize x.A * y.C = P3 at *; generalize x.A * y.D = P4 at *
  generalize x.B * y.A = Q1 at *; generalize x.B * y.B = Q2 at *; generalize x.B * y.C = Q3 at *; generalize x.B * y.D = Q4 at *
  generalize x.C * y.A = R1 at *; generalize x.C * y.B = R2 at *; generalize x.C * y.C = R3 at *; generalize x.C * y.D = R4 at *
  generalize x.D * y.A = S1 at *; generalize x.D * y.B = S2 at *; generalize x.D * y.C = S3 at *; generalize x.D * y.D = S4 at *
  simp (disch := omega) only [wr]
theorem eMul_comm (x y : TRing) : eMul x y = eMul y x := by
  unfold eMul
  simp only [TRing.mk.injEq]
  refine ⟨?_, ?_, ?_, ?_⟩ <;> grind
theorem eMul_assoc (x y z : TRing) : eMul (eMul x y) z = eMul x (eMul y z) := by
  unfold eMul
  simp only [TRing.mk.injEq]
  refine ⟨?_, ?_, ?_, ?_⟩ <;> grind
theorem eMul_plus (x y z : TRing) : eMul x (rPlus y z) = rPlus (eMul x y) (eMul x z) := by
  unfold eMul rPlus
  simp only [TRing.mk.injEq]
  refine ⟨?_, ?_, ?_, ?_⟩ <;> grind
theorem eMul_zero (x : TRing) : eMul x rZero = rZero := by simp [eMul, rZero]
theorem plus_comm (x y : TRing) : rPlus x y = rPlus y x := by
  unfold rPlus
  simp only [TRing.mk.injEq]; omega
theorem plus_zero (x : TRing) : rPlus x rZero = x := by simp [rPlus, rZero]
theorem zero_plus (x : TRing) : rPlus rZero x = x := by simp [rPlus, rZero]
theorem root_mul (x y : TRing) : eMul (rRoot x) y = rRoot (eMul x y) := by
  unfold eMul rRoot
  simp only [TRing.mk.injEq]
  refine ⟨?_, ?_, ?_, ?_⟩ <;> grind
theorem it_mul : ∀ (k : Nat) (x y : TRing), eMul (rIt k x) y = rIt k (eMul x y)
  | 0, _, _ => rfl
  | k + 1, x, y => by
    show eMul (rIt k (rRoot x)) y = rIt k (rRoot (eMul x y))
    rw [it_mul k, root_mul]
theorem it_mul' (k : Nat) (x y : TRing) : eMul x (rIt k y) = rIt k (eMul x y) := by rw [eMul_comm, it_mul, eMul_comm]
theorem root_inj {x y : TRing} (h : rRoot x = rRoot y) : x = y := by
  obtain ⟨a, b, c, d⟩ := x
  obtain ⟨a', b', c', d'⟩ := y
  unfold rRoot at h
  simp only [TRing.mk.injEq] at h ⊢
  omega
theorem it_inj : ∀ (k : Nat) {x y : TRing}, rIt k x = rIt k y → x = y
  | 0, _, _, h => h
  | k + 1, _, _, h => root_inj (it_inj k h)
theorem it_z : ∀ k, rIt k rZero = rZero
  | 0 => rfl
  | k + 1 => it_z k
theorem v_mul {x y z : TDyadic} (hx : dOk x = true) (hy : dOk y = true) (h : DM x y = some z) : rIt 60 (vOf z) = eMul (vOf x) (vOf y) := by
  obtain ⟨he, hv⟩ := dm_val hx hy h
  obtain ⟨x1, x2, x3⟩ := d_parts hx
  obtain ⟨y1, y2, y3⟩ := d_parts hy
  rw [hv, mul_exact x1 y1]
  unfold vOf
  rw [it_mul, it_mul', ← rIt_add, ← rIt_add]
  congr 1
  omega
def eSum : Nat → (Nat → TRing) → TRing
  | 0, _ => rZero
  | n + 1, f => rPlus (eSum n f) (f n)
theorem eSum_congr : ∀ {n : Nat} {f g : Nat → TRing}, (∀ k, k < n → f k = g k) → eSum n f = eSum n g
  | 0, _, _, _ => rfl
  | n + 1, f, g, h => by
    show rPlus (eSum n f) (f n) = rPlus (eSum n g) (g n)
    rw [eSum_congr (fun k hk => h k (by omega)), h n (by omega)]
theorem eSum_plus : ∀ (n : Nat) (f g : Nat → TRing), eSum n (fun k => rPlus (f k) (g k)) = rPlus (eSum n f) (eSum n g)
  | 0, _, _ => rfl
  | n + 1, f, g => by
    show rPlus (eSum n fun k => rPlus (f k) (g k)) (rPlus (f n) (g n)) = rPlus (rPlus (eSum n f) (f n)) (rPlus (eSum n g) (g n))
    rw [eSum_plus n]
    unfold rPlus
    simp only [TRing.mk.injEq]; omega
theorem eSum_zero : ∀ (n : Nat), eSum n (fun _ => rZero) = rZero
  | 0 => rfl
  | n + 1 => by show rPlus (eSum n fun _ => rZero) rZero = rZero; rw [eSum_zero n]; rfl
theorem eSum_swap (f : Nat → Nat → TRing) (m : Nat) : ∀ (n : Nat), eSum n (fun i => eSum m (fun k => f i k)) = eSum m (fun k => eSum n (fun i => f i k))
  | 0 => (eSum_zero m).symm
  | n + 1 => by
    show rPlus (eSum n fun i => eSum m fun k => f i k) (eSum m fun k => f n k) = eSum m fun k => rPlus (eSum n fun i => f i k) (f n k)
    rw [eSum_swap f m n, eSum_plus]
theorem it_sum (k : Nat) : ∀ (n : Nat) (f : Nat → TRing), rIt k (eSum n f) = eSum n (fun i => rIt k (f i))
  | 0, _ => it_z k
  | n + 1, f => by
    show rIt k (rPlus (eSum n f) (f n)) = rPlus (eSum n fun i => rIt k (f i)) (rIt k (f n))
    rw [rIt_plus, it_sum k n]
theorem mul_sum (x : TRing) : ∀ (n : Nat) (f : Nat → TRing), eMul x (eSum n f) = eSum n (fun i => eMul x (f i))
  | 0, _ => eMul_zero x
  | n + 1, f => by
    show eMul x (rPlus (eSum n f) (f n)) = rPlus (eSum n fun i => eMul x (f i)) (eMul x (f n))
    rw [eMul_plus, mul_sum x n]
theorem sum_mul (x : TRing) (n : Nat) (f : Nat → TRing) : eMul (eSum n f) x = eSum n (fun i => eMul (f i) x) := by
  rw [eMul_comm, mul_sum]
  exact eSum_congr fun k _ => eMul_comm _ _
/-- A sum of which one summand is not zero. -/
theorem eSum_one {f : Nat → TRing} {s : Nat} : ∀ {n : Nat}, s < n → (∀ k, k < n → k ≠ s → f k = rZero) → eSum n f = f s
  | 0, h, _ => absurd h (Nat.not_lt_zero _)
  | n + 1, h, hz => by
    show rPlus (eSum n f) (f n) = f s
    by_cases hs : s = n
    · subst hs
      rw [eSum_congr (g := fun _ => rZero) (fun k hk => hz k (by omega) (by omega)), eSum_zero, zero_plus]
    · rw [eSum_one (show s < n by omega) (fun k hk hne => hz k (by omega) hne), hz n (by omega) (fun h => hs h.symm), plus_zero]
def rConj (x : TRing) : TRing := TRing.mk x.A (-x.D) (-x.C) (-x.B)
theorem conj_root (x : TRing) : rRoot (rConj x) = rConj (rRoot x) := by
  unfold rRoot rConj
  simp only [TRing.mk.injEq]; omega
theorem conj_it : ∀ (k : Nat) (x : TRing), rIt k (rConj x) = rConj (rIt k x)
  | 0, _ => rfl
  | k + 1, x => by
    show rIt k (rRoot (rConj x)) = rConj (rIt k (rRoot x))
    rw [conj_root, conj_it k]
theorem conj_mul (x y : TRing) : eMul (rConj x) (rConj y) = rConj (eMul x y) := by
  unfold eMul rConj
  simp only [TRing.mk.injEq]
  refine ⟨?_, ?_, ?_, ?_⟩ <;> grind
theorem conj_plus (x y : TRing) : rConj (rPlus x y) = rPlus (rConj x) (rConj y) := by
  show TRing.mk (x.A + y.A) (-(x.D + y.D)) (-(x.C + y.C)) (-(x.B + y.B)) = TRing.mk (x.A + y.A) (-x.D + -y.D) (-x.C + -y.C) (-x.B + -y.B)
  rw [Int.neg_add, Int.neg_add, Int.neg_add]
theorem conj_sum : ∀ (n : Nat) (f : Nat → TRing), rConj (eSum n f) = eSum n (fun i => rConj (f i))
  | 0, _ => rfl
  | n + 1, f => by
    show rConj (rPlus (eSum n f) (f n)) = rPlus (eSum n fun i => rConj (f i)) (rConj (f n))
    rw [conj_plus, conj_sum n]
theorem v_conj (x : TDyadic) : vOf (dConj x) = rConj (vOf x) := conj_it _ _
theorem forN_ind {σ : Type} {f : Nat → σ → Option σ} (I : Nat → σ → Prop) : ∀ (k i : Nat) (s z : σ), forN f k i s = some z → I i s → (∀ j s s', i ≤ j → j < i + k → I j s → f j s = some s' → I (j + 1) s') → I (i + k) z
  | 0, _, _, _, h, hI, _ => by cases h; exact hI
  | k + 1, i, s, z, h, hI, hs => by
    obtain ⟨s', h1, h2⟩ := forN_go h
    have := forN_ind I k (i + 1) s' z h2 (hs i s s' (Nat.le_refl _) (by omega) hI h1) (fun j s s' h1 h2 => hs j s s' (by omega) (by omega))
    rwa [show i + (k + 1) = i + 1 + k by omega]
theorem dot_val {X Y : Nat → TDyadic} (hX : ∀ k, dOk (X k) = true) (hY : ∀ k, dOk (Y k) = true) {n : Nat} {z : TDyadic} (h : forN (dotS X Y) n 0 dZero = some z) :
    dOk z = true ∧ rIt 60 (vOf z) = eSum n (fun k => eMul (vOf (X k)) (vOf (Y k))) := by
  have := forN_ind (fun j s => dOk s = true ∧ rIt 60 (vOf s) = eSum j (fun k => eMul (vOf (X k)) (vOf (Y k)))) n 0 dZero z h ⟨dZero_ok, by unfold vOf; rw [show dZero.Num = rZero from rfl, it_z]; exact it_z _⟩ (fun j s s' _ _ hI hs => by
    unfold dotS at hs
    obtain ⟨p, hp, hs⟩ := Option.bind_eq_some_iff.1 hs
    have op := dm_ok (hX j) (hY j) hp
    refine ⟨da_ok hI.1 op hs, ?_⟩
    rw [da_val hI.1 op hs, rIt_plus, hI.2, v_mul (hX j) (hY j) hp]
    rfl)
  rwa [Nat.zero_add] at this
theorem rc_inj {C i j i' j' : Nat} (hj : j < C) (hj' : j' < C) (h : i * C + j = i' * C + j') : i = i' ∧ j = j' := by
  rcases Nat.lt_trichotomy i i' with h1 | h1 | h1
  · have := Nat.mul_le_mul_right C (show i + 1 ≤ i' from h1)
    rw [Nat.add_mul] at this; omega
  · subst h1; omega
  · have := Nat.mul_le_mul_right C (show i' + 1 ≤ i from h1)
    rw [Nat.add_mul] at this; omega
theorem grid_get {cell : Nat → Nat → Option TDyadic} {R C : Nat} {l : List TDyadic} (h : gridO cell R C = some l) : l.length = R * C ∧ ∀ i j, i < R → j < C → cell i j = some (l.getD (i * C + j) dZero) := by
  have hP := forN_ind (fun i (l : List TDyadic) => l.length = i * C ∧ ∀ i' j', j' < C → i' * C + j' < i * C → cell i' j' = some (l.getD (i' * C + j') dZero)) R 0 [] l h ⟨by simp, fun i' j' _ h => by omega⟩ (fun i s s' _ _ hI hs => by
    have := forN_ind (fun j (l : List TDyadic) => l.length = i * C + j ∧ ∀ i' j', j' < C → i' * C + j' < i * C + j → cell i' j' = some (l.getD (i' * C + j') dZero)) C 0 s s' hs ⟨by omega, fun i' j' h1 h2 => hI.2 i' j' h1 (by omega)⟩ (fun j s s' _ hj hI hs => by
      obtain ⟨z, hz, hs⟩ := Option.bind_eq_some_iff.1 hs
      cases hs
      refine ⟨by simp [hI.1]; omega, fun i' j' h1 h2 => ?_⟩
      by_cases he : i' * C + j' = i * C + j
      · obtain ⟨rfl, rfl⟩ := rc_inj h1 (by omega) he
        rw [hz, List.getD_eq_getElem?_getD, List.getElem?_append_right (by omega), hI.1]
        simp
      · rw [hI.2 i' j' h1 (by omega), List.getD_eq_getElem?_getD, List.getD_eq_getElem?_getD, List.getElem?_append_left (by omega)])
    refine ⟨by rw [this.1, Nat.add_mul]; omega, fun i' j' h1 h2 => this.2 i' j' h1 (by rw [Nat.add_mul] at h2; omega)⟩)
  rw [Nat.zero_add] at hP
  exact ⟨hP.1, fun i j hi hj => hP.2 i j hj (ix_lt hi hj)⟩
/-- The value of a cell. -/
def vM (l : List TDyadic) (C i j : Nat) : TRing := vOf (l.getD (i * C + j) dZero)
theorem mm_val {a b l : List TDyadic} {R K C : Nat} (ha : okD a) (hb : okD b) (h : mmO a b R K C = some l) : l.length = R * C ∧ okD l ∧ ∀ i j, i < R → j < C → rIt 60 (vM l C i j) = eSum K (fun k => eMul (vM a K i k) (vM b C k j)) := by
  obtain ⟨h1, h2⟩ := grid_get h
  have hc : ∀ i j, i < R → j < C → _ := fun i j hi hj => dot_val (fun k => getD_ok ha _) (fun k => getD_ok hb _) (h2 i j hi hj)
  refine ⟨h1, fun z hz => ?_, fun i j hi hj => (hc i j hi hj).2⟩
  obtain ⟨p, hp, rfl⟩ := List.mem_iff_getElem.1 hz
  have hC : 0 < C := by
    rcases Nat.eq_zero_or_pos C with h0 | h0
    · rw [h0, Nat.mul_zero] at h1; omega
    · exact h0
  have hp2 : p / C * C + p % C = p := by rw [Nat.mul_comm]; exact Nat.div_add_mod p C
  have := (hc (p / C) (p % C) ((Nat.div_lt_iff_lt_mul hC).2 (by omega)) (Nat.mod_lt _ hC)).1
  rw [hp2, List.getD_eq_getElem?_getD, List.getElem?_eq_getElem hp] at this
  exact this
theorem adj_get {l l' : List TDyadic} {R C : Nat} (h : adO l R C = some l') : l'.length = C * R ∧ ∀ i j, i < C → j < R → l'.getD (i * R + j) dZero = dConj (l.getD (j * C + i) dZero) := by
  obtain ⟨h1, h2⟩ := grid_get h
  exact ⟨h1, fun i j hi hj => (Option.some.inj (h2 i j hi hj)).symm⟩
def BOk (code : List Int) : Prop := code.length ≤ 9223372036854775807 ∧ ∀ y ∈ code, U8 y
/-- A draw gives a value that P is true of, and goes on by at most n places. -/
def Dr {α : Type} (f : Tl1Cur → Option (α × Tl1Cur)) (P : α → Prop) (n : Nat) : Prop :=
  ∀ (code : List Int) (a s : Int) (k : Nat), BOk code → 0 ≤ a → a ≤ k → k + n ≤ 1000000000 → ∃ v a' s', f (Tl1Cur.mk code a s) = some (v, Tl1Cur.mk code a' s') ∧ P v ∧ 0 ≤ a' ∧ a' ≤ ((k + n : Nat) : Int)
theorem Dr.mono {α : Type} {f : Tl1Cur → Option (α × Tl1Cur)} {P P' : α → Prop} {n n' : Nat} (h : Dr f P n) (hP : ∀ v, P v → P' v) (hn : n ≤ n') : Dr f P' n' := fun code a s k hb h0 h1 h2 => by
  obtain ⟨v, a', s', e, p, q, r⟩ := h code a s k hb h0 h1 (by omega)
  exact ⟨v, a', s', e, hP v p, q, by omega⟩
theorem next_d : Dr F_spec_l1Cur_next (fun v => 0 ≤ v ∧ v ≤ 255) 1 := fun code a s k hb h0 h1 h2 => by
  obtain ⟨b1, b2⟩ := hb
  have hw : IntKind.i64.wrap (a + 1) = a + 1 := wrap_i64 ⟨by omega, by omega⟩
  have hrest : ∀ b : Int, 0 ≤ b ∧ b ≤ 255 → ∃ v a' s', (bif (decide ((IntKind.i64.wrap (a + 1)) ≤ (code.length : Int))) then (some ((b, (Tl1Cur.mk code (IntKind.i64.wrap (a + 1)) (IntKind.u64.wrap ((IntKind.u64.wrap ((IntKind.u64.wrap (s * 6364136223846793005)) + (IntKind.u64.wrap b))) + 1442695040888963407)))))) else (some (((IntKind.i64.wrap (bits .and .u64 (shrK .u64 (IntKind.u64.wrap ((IntKind.u64.wrap ((IntKind.u64.wrap (s * 6364136223846793005)) + (IntKind.u64.wrap b))) + 1442695040888963407)) 40) 255)), (Tl1Cur.mk code (IntKind.i64.wrap (a + 1)) (IntKind.u64.wrap ((IntKind.u64.wrap ((IntKind.u64.wrap (s * 6364136223846793005)) + (IntKind.u64.wrap b))) + 1442695040888963407))))))) = some (v, Tl1Cur.mk code a' s') ∧ (0 ≤ v ∧ v ≤ 255) ∧ 0 ≤ a' ∧ a' ≤ ((k + 1 : Nat) : Int) := fun b hb => by
    rw [hw]
    cases decide (a + 1 ≤ (code.length : Int)) with
    | true => exact ⟨_, _, _, rfl, hb, by omega, by omega⟩
    | false =>
      refine ⟨_, _, _, rfl, ?_, by omega, by omega⟩
      generalize hz : IntKind.u64.wrap ((IntKind.u64.wrap ((IntKind.u64.wrap (s * 6364136223846793005)) + (IntKind.u64.wrap b))) + 1442695040888963407) = z
      have key : ∃ m : Nat, bits .and .u64 (shrK .u64 z 40) 255 = (m : Int) ∧ m ≤ 255 := by
        have z0 : 0 ≤ z := by rw [← hz]; exact Int.emod_nonneg _ (by decide)
        have z1 : z < 18446744073709551616 := by rw [← hz]; exact Int.emod_lt_of_pos _ (by decide)
        obtain ⟨n, rfl⟩ : ∃ n : Nat, z = n := ⟨z.toNat, by omega⟩
        rw [show (40 : Int) = ((40 : Nat) : Int) from rfl, shr_u n 40 (by decide), show (255 : Int) = ((255 : Nat) : Int) from rfl, and_u (Nat.lt_of_le_of_lt (Nat.div_le_self _ _) (by omega)) (by decide)]
        exact ⟨_, rfl, Nat.and_le_right⟩
      obtain ⟨m, e, hm⟩ := key
      rw [e, wrap_i64 (a := (m : Int)) ⟨by omega, by omega⟩]
      omega
  unfold F_spec_l1Cur_next
  simp only
  by_cases hlt : a < (code.length : Int)
  · rw [decide_eq_true hlt]
    obtain ⟨x, hx, hx2⟩ := getI_at h0 hlt
    have := b2 x (List.mem_of_getElem? hx2)
    unfold U8 at this
    simp only [cond_true, hx, Option.bind_some]
    rw [wrap_i64 (a := x) ⟨by omega, by omega⟩]
    exact hrest x this
  · rw [decide_eq_false hlt]
    simp only [cond_false, Option.bind_some]
    exact hrest 0 ⟨by decide, by decide⟩
theorem pick_d (n : Int) (hn : n ≤ 1000000) : Dr (fun c => F_spec_l1Cur_pick c n) (fun v => 0 ≤ v ∧ (v < n ∨ v = 0)) 2 := fun code a s k hb h0 h1 h2 => by
  unfold F_spec_l1Cur_pick
  by_cases hle : n ≤ 1
  · rw [decide_eq_true hle]
    exact ⟨0, a, s, rfl, ⟨Int.le_refl 0, .inr rfl⟩, h0, by omega⟩
  · rw [decide_eq_false hle]
    obtain ⟨v, a', s', e, hv, a0, a1⟩ := next_d code a s k hb h0 h1 (by omega)
    simp only [cond_false]
    rw [e]
    simp only [Option.bind_some]
    have tmb : ∀ x : Int, 0 ≤ x → 0 ≤ Int.tmod x n ∧ (Int.tmod x n < n ∨ Int.tmod x n = 0) := fun x hx => ⟨Int.tmod_nonneg n hx, .inl (Int.tmod_lt_of_pos x (by omega))⟩
    by_cases hbig : 200 < n
    · rw [decide_eq_true hbig]
      obtain ⟨v2, a2, s2, e2, hv2, b0, b1⟩ := next_d code a' s' (k + 1) hb a0 a1 (by omega)
      simp only [cond_true]
      rw [e2]
      simp only [Option.bind_some]
      rw [chk_t (by omega), wrap_i64 (a := v * 256) ⟨by omega, by omega⟩, wrap_i64 (a := v * 256 + v2) ⟨by omega, by omega⟩]
      exact ⟨_, _, _, rfl, tmb _ (by omega), b0, by omega⟩
    · rw [decide_eq_false hbig]
      simp only [cond_false, Option.bind_some]
      rw [chk_t (by omega)]
      exact ⟨_, _, _, rfl, tmb _ hv.1, a0, by omega⟩
theorem pick_lt {n v : Int} (h : 0 ≤ v ∧ (v < n ∨ v = 0)) (hn : 0 < n) : 0 ≤ v ∧ v < n := by omega
theorem ring_d : Dr F_spec_l1Cur_ring (fun v => rOk v = true) 8 := fun code a s k hb h0 h1 h2 => by
  unfold F_spec_l1Cur_ring
  obtain ⟨v1, a1, s1, e1, p1, q1, r1⟩ := pick_d 9 (by decide) code a s k hb h0 h1 (by omega)
  simp only at e1 ⊢
  rw [e1]; simp only [Option.bind_some]
  obtain ⟨v2, a2, s2, e2, p2, q2, r2⟩ := pick_d 9 (by decide) code a1 s1 (k + 2) hb q1 r1 (by omega)
  simp only at e2
  rw [e2]; simp only [Option.bind_some]
  obtain ⟨v3, a3, s3, e3, p3, q3, r3⟩ := pick_d 9 (by decide) code a2 s2 (k + 2 + 2) hb q2 r2 (by omega)
  simp only at e3
  rw [e3]; simp only [Option.bind_some]
  obtain ⟨v4, a4, s4, e4, p4, q4, r4⟩ := pick_d 9 (by decide) code a3 s3 (k + 2 + 2 + 2) hb q3 r3 (by omega)
  simp only at e4
  rw [e4]; simp only [Option.bind_some]
  refine ⟨_, _, _, rfl, ?_, q4, by first | omega | (simp only; omega)⟩
  rw [wrap_i64 (a := v1 - 4) ⟨by omega, by omega⟩, wrap_i64 (a := v2 - 4) ⟨by omega, by omega⟩, wrap_i64 (a := v3 - 4) ⟨by omega, by omega⟩, wrap_i64 (a := v4 - 4) ⟨by omega, by omega⟩, rOk_iff]
  simp only
  omega
theorem dyadic_d : Dr F_spec_l1Cur_dyadic (fun v => dOk v = true) 10 := fun code a s k hb h0 h1 h2 => by
  unfold F_spec_l1Cur_dyadic
  obtain ⟨v1, a1, s1, e1, p1, q1, r1⟩ := ring_d code a s k hb h0 h1 (by omega)
  rw [e1]; simp only [Option.bind_some]
  obtain ⟨v2, a2, s2, e2, p2, q2, r2⟩ := pick_d 5 (by decide) code a1 s1 (k + 8) hb q1 r1 (by omega)
  simp only at e2
  rw [e2]; simp only [Option.bind_some]
  obtain ⟨z, z1, _, z2⟩ := low_both (e := v2) p1 ⟨by omega, by first | omega | (simp only; omega)⟩
  rw [z1]
  exact ⟨_, _, _, rfl, z2, q2, by first | omega | (simp only; omega)⟩
/-- A gate that is taken, over n wires. -/
def gOk (n : Int) (g : TGate) : Bool :=
  bif decide (1 ≤ g.Kind) && decide (g.Kind ≤ 8) then decide (0 ≤ g.A) && decide (g.A ≤ n - 1) && (g.B == 0)
  else bif decide (9 ≤ g.Kind) && decide (g.Kind ≤ 11) then decide (0 ≤ g.A) && decide (g.A ≤ n - 1) && (decide (0 ≤ g.B) && decide (g.B ≤ n - 1)) && (g.A != g.B)
  else (g.Kind == 12) && (g.A == 0) && (g.B == 0)
theorem impl_gate {n : Int} (hn : 1 ≤ n ∧ n ≤ 5) (g : TGate) : F_impl_IsValidGate n g = some (gOk n g) := by
  unfold F_impl_IsValidGate F_impl_isTwo F_impl_within gOk
  rw [wrap_i64 (a := n - 1) ⟨by omega, by omega⟩]
  have h1 : decide (1 ≤ n) = true := decide_eq_true hn.1
  have h5 : decide (n ≤ 5) = true := decide_eq_true hn.2
  simp only [Option.bind_some, gb, h1, h5, Bool.and_self, Bool.not_true, Bool.not_false, cond_true, Bool.false_or]
  by_cases hk : 1 ≤ g.Kind ∧ g.Kind ≤ 12
  · have e1 : (decide (1 ≤ g.Kind) && decide (g.Kind ≤ 12)) = true := by simp [hk]
    simp only [e1, Bool.not_true, cond_false]
    by_cases h12 : g.Kind = 12
    · simp [h12]
    · have e12 : (g.Kind == 12) = false := by simp [h12]
      simp only [e12, cond_false]
      by_cases h9 : 9 ≤ g.Kind
      · have a1 : (decide (9 ≤ g.Kind) && decide (g.Kind ≤ 11)) = true := by simp; omega
        have a2 : (decide (1 ≤ g.Kind) && decide (g.Kind ≤ 8)) = false := by simp; omega
        simp only [a1, a2, cond_true, cond_false]
        cases decide (0 ≤ g.A) && decide (g.A ≤ n - 1) <;> simp
      · have a1 : (decide (9 ≤ g.Kind) && decide (g.Kind ≤ 11)) = false := by simp; omega
        have a2 : (decide (1 ≤ g.Kind) && decide (g.Kind ≤ 8)) = true := by simp; omega
        simp only [a1, a2, cond_true, cond_false]
  · have e1 : (decide (1 ≤ g.Kind) && decide (g.Kind ≤ 12)) = false := by simp; omega
    have a1 : (decide (9 ≤ g.Kind) && decide (g.Kind ≤ 11)) = false := by simp; omega
    have a2 : (decide (1 ≤ g.Kind) && decide (g.Kind ≤ 8)) = false := by simp; omega
    have a3 : (g.Kind == 12) = false := by simp; omega
    simp [e1, a1, a2, a3]
theorem gOk_cases {n : Int} {g : TGate} (h : gOk n g = true) : (1 ≤ g.Kind ∧ g.Kind ≤ 8 ∧ 0 ≤ g.A ∧ g.A ≤ n - 1) ∨ (9 ≤ g.Kind ∧ g.Kind ≤ 11 ∧ 0 ≤ g.A ∧ g.A ≤ n - 1 ∧ 0 ≤ g.B ∧ g.B ≤ n - 1 ∧ g.A ≠ g.B) ∨ g.Kind = 12 := by
  unfold gOk at h
  by_cases h1 : 1 ≤ g.Kind ∧ g.Kind ≤ 8
  · have e : (decide (1 ≤ g.Kind) && decide (g.Kind ≤ 8)) = true := by simp [h1]
    rw [e, cond_true] at h
    simp at h
    exact .inl ⟨h1.1, h1.2, h.1.1, h.1.2⟩
  · have e : (decide (1 ≤ g.Kind) && decide (g.Kind ≤ 8)) = false := by simp; omega
    rw [e, cond_false] at h
    by_cases h2 : 9 ≤ g.Kind ∧ g.Kind ≤ 11
    · have e : (decide (9 ≤ g.Kind) && decide (g.Kind ≤ 11)) = true := by simp [h2]
      rw [e, cond_true] at h
      simp at h
      exact .inr (.inl ⟨h2.1, h2.2, h.1.1.1, h.1.1.2, h.1.2.1, h.1.2.2, h.2⟩)
    · have e : (decide (9 ≤ g.Kind) && decide (g.Kind ≤ 11)) = false := by simp; omega
      rw [e, cond_false] at h
      simp at h
      exact .inr (.inr h.1.1)
def bi (i s : Nat) : Nat := (i >>> s) % 2
def fl (i s : Nat) : Nat := i ^^^ (2 ^ s)
theorem bit_small : ∀ (i : Fin 32) (s : Fin 5), bits .and .i64 (shrK .i64 (i.val : Int) (s.val : Int)) 1 = ((bi i.val s.val : Nat) : Int) := by decide +kernel
theorem fl_small : ∀ (i : Fin 32) (s : Fin 5), bits .xor .i64 (i.val : Int) (shlK .i64 1 (s.val : Int)) = ((fl i.val s.val : Nat) : Int) ∧ fl i.val s.val < 32 := by decide +kernel
theorem an_small : ∀ (r c : Fin 32) (s : Fin 5), (bits .andNot .i64 (bits .xor .i64 (r.val : Int) (c.val : Int)) (shlK .i64 1 (s.val : Int)) != 0) = !(decide (r.val = c.val) || decide (fl r.val s.val = c.val)) := by decide +kernel
theorem cx_small : ∀ (i j : Fin 32) (a b : Fin 5), a.val ≠ b.val → decide (i.val = if bi j.val a.val = 1 then fl j.val b.val else j.val) = decide ((if bi i.val a.val = 1 then fl i.val b.val else i.val) = j.val) := by decide +kernel
theorem sw_small : ∀ (i j : Fin 32) (a b : Fin 5), a.val ≠ b.val → decide (i.val = if bi j.val a.val ≠ bi j.val b.val then fl (fl j.val a.val) b.val else j.val) = decide ((if bi i.val a.val ≠ bi i.val b.val then fl (fl i.val a.val) b.val else i.val) = j.val) := by decide +kernel
def phD (k : Int) : TDyadic := (F_impl_phase k).getD dZero
theorem ph_small : ∀ k : Fin 9, F_spec_l2Power (k.val : Int) = some (phD k.val) ∧ F_impl_phase (k.val : Int) = some (phD k.val) ∧ dOk (phD k.val) = true := by decide +kernel
theorem bi_lt (i s : Nat) : bi i s < 2 := Nat.mod_lt _ (by decide)
def enD (k : Int) (a b : Nat) : TDyadic := (F_impl_entry k a b).getD dZero
theorem en_small : ∀ (k : Fin 9) (a b : Fin 2), 1 ≤ k.val → F_impl_entry (k.val : Int) (a.val : Int) (b.val : Int) = some (enD k.val a.val b.val) ∧
    ((F_spec_l6One (k.val : Int)).bind fun l => getI l (IntKind.i64.wrap (IntKind.i64.wrap (2 * (a.val : Int)) + (b.val : Int)))) = some (enD k.val a.val b.val) ∧ dOk (enD k.val a.val b.val) = true := by decide +kernel
theorem wru {a : Int} (h : 0 ≤ a ∧ a ≤ 9000000000000000000) : IntKind.u64.wrap a = a := by
  simp [IntKind.wrap, IntKind.signed, IntKind.bits]
  omega
section
variable {n a i : Nat}
theorem sp_bit (hn : n ≤ 5) (ha : a < n) (hi : i < 32) : F_spec_l6Bit n i a = some ((bi i (n - 1 - a) : Nat) : Int) := by
  unfold F_spec_l6Bit
  rw [wr (a := (n : Int) - 1) (by omega), wr (a := (n : Int) - 1 - a) (by omega), wru (a := (n : Int) - 1 - a) (by omega), chk_t (by omega), show (n : Int) - 1 - a = ((n - 1 - a : Nat) : Int) by omega]
  exact congrArg some (bit_small ⟨i, hi⟩ ⟨n - 1 - a, by omega⟩)
theorem im_bit (hn : n ≤ 5) (ha : a < n) (hi : i < 32) : F_impl_bitOf n i a = some ((bi i (n - 1 - a) : Nat) : Int) := by
  unfold F_impl_bitOf
  rw [wr (a := (n : Int) - 1) (by omega), wr (a := (n : Int) - 1 - a) (by omega), chk_t (by omega), show (n : Int) - 1 - a = ((n - 1 - a : Nat) : Int) by omega]
  exact congrArg some (bit_small ⟨i, hi⟩ ⟨n - 1 - a, by omega⟩)
theorem im_flip (hn : n ≤ 5) (ha : a < n) (hi : i < 32) : F_impl_flipped n i a = some ((fl i (n - 1 - a) : Nat) : Int) := by
  unfold F_impl_flipped
  rw [wr (a := (n : Int) - 1) (by omega), wr (a := (n : Int) - 1 - a) (by omega), chk_t (by omega), show (n : Int) - 1 - a = ((n - 1 - a : Nat) : Int) by omega]
  exact congrArg some (fl_small ⟨i, hi⟩ ⟨n - 1 - a, by omega⟩).1
theorem fl_lt (hn : n ≤ 5) (ha : a < n) (hi : i < 32) : fl i (n - 1 - a) < 32 := (fl_small ⟨i, hi⟩ ⟨n - 1 - a, by omega⟩).2
end
theorem ibeq (i j : Nat) : ((i : Int) == (j : Int)) = decide (i = j) := by
  rw [Bool.eq_iff_iff, beq_iff_eq, decide_eq_true_eq]; omega
theorem ibne (i j : Nat) : ((i : Int) != (j : Int)) = !decide (i = j) := by
  unfold bne; rw [ibeq]
theorem one_beq (i : Nat) : ((i : Int) == 1) = decide (i = 1) := ibeq i 1
theorem phk {k : Nat} (h : k < 9) : F_spec_l2Power (k : Int) = some (phD k) ∧ F_impl_phase (k : Int) = some (phD k) ∧ dOk (phD k) = true := ph_small ⟨k, h⟩
theorem sel_ok (b : Bool) {x : TDyadic} (h : dOk x = true) : dOk (bif b then x else dZero) = true := by cases b; exact dZero_ok; exact h
theorem bsomeT {b : Bool} {x : TDyadic} : (bif b then some x else some (TDyadic.mk (TRing.mk 0 0 0 0) 0)) = some (bif b then x else dZero) := by cases b <;> rfl
/-- A cell of a gate's matrix: both say the same. -/
theorem cell_both {n : Nat} (hn : 1 ≤ n ∧ n ≤ 5) {g : TGate} (hg : gOk n g = true) {i j : Nat} (hi : i < 32) (hj : j < 32) :
    ∃ z, F_spec_l6Cell n g i j = some z ∧ F_impl_GateMatrix_1 i j g n = some (z, true) ∧ dOk z = true := by
  obtain ⟨p0, q0, o0⟩ := phk (k := 0) (by decide)
  obtain ⟨p1, q1, o1⟩ := phk (k := 1) (by decide)
  obtain ⟨p4, q4, o4⟩ := phk (k := 4) (by decide)
  have p0 : F_spec_l2Power 0 = some (phD 0) := p0
  have p1 : F_spec_l2Power 1 = some (phD 1) := p1
  have q1 : F_impl_phase 1 = some (phD 1) := q1
  have p4 : F_spec_l2Power 4 = some (phD 4) := p4
  unfold F_spec_l6Cell F_impl_GateMatrix_1
  rw [p0]
  simp only [Option.bind_some]
  rcases gOk_cases hg with ⟨k1, k2, a1, a2⟩ | ⟨k1, k2, a1, a2, b1, b2, hab⟩ | hk
  · -- on one wire
    obtain ⟨k, hk⟩ : ∃ k : Nat, g.Kind = k := ⟨g.Kind.toNat, by omega⟩
    obtain ⟨a, ha⟩ : ∃ a : Nat, g.A = a := ⟨g.A.toNat, by omega⟩
    have e12 : (g.Kind == 12) = false := by rw [hk]; exact decide_eq_false (by omega)
    have e9 : (g.Kind == 9) = false := by rw [hk]; exact decide_eq_false (by omega)
    have e10 : (g.Kind == 10) = false := by rw [hk]; exact decide_eq_false (by omega)
    have e11 : (g.Kind == 11) = false := by rw [hk]; exact decide_eq_false (by omega)
    have et : F_impl_isTwo g.Kind = some false := by
      unfold F_impl_isTwo F_impl_within
      rw [hk, decide_eq_false (show ¬ (9 : Int) ≤ (k : Int) by omega)]; rfl
    have hs : (n : Int) - 1 - a = ((n - 1 - a : Nat) : Int) := by omega
    simp only [e12, e9, e10, e11, cond_false, et, Option.bind_some]
    rw [ha, wr (a := (n : Int) - 1) (by omega), wr (a := (n : Int) - 1 - a) (by omega), wru (a := (n : Int) - 1 - a) (by omega), chk_t (by omega), hs,
      an_small ⟨i, hi⟩ ⟨j, hj⟩ ⟨n - 1 - a, by omega⟩]
    simp only
    rw [im_flip hn.2 (by omega) hi, ibeq]
    simp only [gb, sp_bit hn.2 (show a < n by omega) hi, sp_bit hn.2 (show a < n by omega) hj, im_bit hn.2 (show a < n by omega) hi, im_bit hn.2 (show a < n by omega) hj]
    obtain ⟨w1, w2, w3⟩ := en_small ⟨k, by omega⟩ ⟨bi i (n - 1 - a), bi_lt _ _⟩ ⟨bi j (n - 1 - a), bi_lt _ _⟩ (by simp only; omega)
    simp only at w1 w2 w3
    obtain ⟨l, w4, w5⟩ := Option.bind_eq_some_iff.1 w2
    by_cases hij : i = j
    · rw [decide_eq_true hij]
      simp only [Bool.true_or, Bool.not_true, cond_false, cond_true, Option.bind_some]
      rw [hk, w4]
      simp only [Option.bind_some, w5, w1, orR]
      exact ⟨_, rfl, rfl, w3⟩
    · rw [decide_eq_false hij]
      simp only [Bool.false_or, Bool.not_false, cond_true, Option.bind_some, ibeq]
      by_cases hf : fl i (n - 1 - a) = j
      · rw [decide_eq_true hf]
        simp only [Bool.not_true, cond_false, cond_true]
        rw [hk, w4]
        simp only [Option.bind_some, w5, w1, orR]
        exact ⟨_, rfl, rfl, w3⟩
      · rw [decide_eq_false hf]
        simp only [Bool.not_false, cond_false, cond_true, Option.bind_some, orR]
        exact ⟨_, rfl, rfl, dZero_ok⟩
  · obtain ⟨a, ha⟩ : ∃ a : Nat, g.A = a := ⟨g.A.toNat, by omega⟩
    obtain ⟨b, hb⟩ : ∃ b : Nat, g.B = b := ⟨g.B.toNat, by omega⟩
    have hs : (n : Int) - 1 - a = ((n - 1 - a : Nat) : Int) := by omega
    have hs' : (n : Int) - 1 - b = ((n - 1 - b : Nat) : Int) := by omega
    have et : F_impl_isTwo g.Kind = some true := by
      unfold F_impl_isTwo F_impl_within
      rw [decide_eq_true k1, decide_eq_true k2]; rfl
    have e12 : (g.Kind == 12) = false := decide_eq_false (by omega)
    have c1 := sp_bit hn.2 (show a < n by omega) hj
    have c2 := sp_bit hn.2 (show b < n by omega) hj
    have d1 := im_bit hn.2 (show a < n by omega) hi
    have d2 := im_bit hn.2 (show b < n by omega) hi
    have hne : n - 1 - a ≠ n - 1 - b := by omega
    unfold F_impl_comesFrom
    rw [e12, et, ha, hb, c1, c2, d1, d2, wr (a := (n : Int) - 1) (by omega), wr (a := (n : Int) - 1 - a) (by omega), wru (a := (n : Int) - 1 - a) (by omega), wr (a := (n : Int) - 1 - b) (by omega), wru (a := (n : Int) - 1 - b) (by omega), hs, hs']
    simp only [cond_false, cond_true, Option.bind_some, gb]
    have : g.Kind = 9 ∨ g.Kind = 10 ∨ g.Kind = 11 := by omega
    rcases this with hk | hk | hk
    · have hc := cx_small ⟨i, hi⟩ ⟨j, hj⟩ ⟨n - 1 - a, by omega⟩ ⟨n - 1 - b, by omega⟩ hne
      simp only at hc
      refine ⟨bif decide (i = if bi j (n - 1 - a) = 1 then fl j (n - 1 - b) else j) then phD 0 else dZero, ?_, ?_, sel_ok _ o0⟩
      · rw [hk]
        simp only [show ((9 : Int) == 9) = true from rfl, cond_true, one_beq]
        by_cases h1 : bi j (n - 1 - a) = 1
        · simp only [decide_eq_true h1, cond_true, if_pos h1]
          rw [chk_t (by omega), (fl_small ⟨j, hj⟩ ⟨n - 1 - b, by omega⟩).1]
          simp only [Option.bind_some, orR, ibeq]
          exact bsomeT
        · simp only [decide_eq_false h1, cond_false, if_neg h1, Option.bind_some, orR, ibeq]
          exact bsomeT
      · rw [hk, hc]
        simp only [show ((9 : Int) == 9) = true from rfl, show ((9 : Int) == 11) = false from rfl, show ((9 : Int) == 10) = false from rfl, Bool.true_and, Bool.false_and, cond_false, one_beq]
        have f1 := im_flip hn.2 (show b < n by omega) hi
        have hq : ∀ from_ : Nat, ((bif ((from_ : Int) == (j : Int)) then ((F_impl_small false).bind fun r_7 => (F_impl_phase (IntKind.i64.wrap (4 * r_7))).bind fun r_8 => (some (.inr (r_8, true)) : Option (Unit ⊕ (TDyadic × Bool)))) else some (.inl ())).bind <| orR fun _ => some (TDyadic.mk (TRing.mk 0 0 0 0) 0, true)) = some ((bif decide (from_ = j) then phD 0 else dZero), true) := fun from_ => by
          rw [ibeq]
          have q0' : F_impl_phase (IntKind.i64.wrap (4 * 0)) = some (phD 0) := q0
          cases decide (from_ = j) with
          | true => simp only [F_impl_small, cond_true, cond_false, Option.bind_some, q0', orR]
          | false => rfl
        by_cases h1 : bi i (n - 1 - a) = 1
        · simp only [decide_eq_true h1, cond_true, if_pos h1, f1, Option.bind_some]
          exact hq _
        · simp only [decide_eq_false h1, cond_false, if_neg h1, Option.bind_some]
          exact hq _
    · refine ⟨bif decide (i = j) then (if bi j (n - 1 - a) = 1 ∧ bi j (n - 1 - b) = 1 then phD 4 else phD 0) else dZero, ?_, ?_, sel_ok _ (by split; exact o4; exact o0)⟩
      · rw [hk]
        simp only [show ((10 : Int) == 9) = false from rfl, show ((10 : Int) == 10) = true from rfl, cond_true, cond_false, one_beq]
        by_cases h1 : bi j (n - 1 - a) = 1
        · by_cases h2 : bi j (n - 1 - b) = 1
          · simp only [decide_eq_true h1, one_beq, decide_eq_true h2, cond_true, Option.bind_some, Bool.and_self, p4, orR, ibeq, if_pos (And.intro h1 h2)]
            exact bsomeT
          · simp only [decide_eq_true h1, one_beq, decide_eq_false h2, cond_true, Option.bind_some, Bool.and_false, cond_false, orR, ibeq, if_neg (show ¬ (bi j (n - 1 - a) = 1 ∧ bi j (n - 1 - b) = 1) from fun h => h2 h.2)]
            exact bsomeT
        · simp only [decide_eq_false h1, cond_false, Option.bind_some, Bool.false_and, orR, ibeq, if_neg (show ¬ (bi j (n - 1 - a) = 1 ∧ bi j (n - 1 - b) = 1) from fun h => h1 h.1)]
          exact bsomeT
      · rw [hk]
        simp only [show ((10 : Int) == 9) = false from rfl, show ((10 : Int) == 11) = false from rfl, show ((10 : Int) == 10) = true from rfl, Bool.true_and, Bool.false_and, cond_true, cond_false, one_beq, Option.bind_some, ibeq]
        by_cases hij : i = j
        · subst hij
          have q4' : F_impl_phase (IntKind.i64.wrap (4 * 1)) = some (phD 4) := q4
          have q0' : F_impl_phase (IntKind.i64.wrap (4 * 0)) = some (phD 0) := q0
          by_cases h1 : bi i (n - 1 - a) = 1
          · by_cases h2 : bi i (n - 1 - b) = 1
            · simp only [decide_eq_true h1, one_beq, decide_eq_true h2, decide_true, cond_true, Option.bind_some, Bool.and_self, F_impl_small, q4', orR, if_pos (And.intro h1 h2)]
            · simp only [decide_eq_true h1, one_beq, decide_eq_false h2, decide_true, cond_true, cond_false, Option.bind_some, Bool.and_false, F_impl_small, q0', orR, if_neg (show ¬ (bi i (n - 1 - a) = 1 ∧ bi i (n - 1 - b) = 1) from fun h => h2 h.2)]
          · simp only [decide_eq_false h1, decide_true, cond_true, cond_false, Option.bind_some, Bool.false_and, F_impl_small, q0', orR, if_neg (show ¬ (bi i (n - 1 - a) = 1 ∧ bi i (n - 1 - b) = 1) from fun h => h1 h.1)]
        · simp only [decide_eq_false hij, cond_false, Option.bind_some, orR]
          rfl
    · have hc := sw_small ⟨i, hi⟩ ⟨j, hj⟩ ⟨n - 1 - a, by omega⟩ ⟨n - 1 - b, by omega⟩ hne
      simp only at hc
      refine ⟨bif decide (i = if bi j (n - 1 - a) ≠ bi j (n - 1 - b) then fl (fl j (n - 1 - a)) (n - 1 - b) else j) then phD 0 else dZero, ?_, ?_, sel_ok _ o0⟩
      · rw [hk]
        simp only [show ((11 : Int) == 9) = false from rfl, show ((11 : Int) == 10) = false from rfl, show ((11 : Int) == 11) = true from rfl, cond_true, cond_false, ibne]
        by_cases h1 : bi j (n - 1 - a) = bi j (n - 1 - b)
        · simp only [decide_eq_true h1, Bool.not_true, cond_false, if_neg (show ¬ (bi j (n - 1 - a) ≠ bi j (n - 1 - b)) from fun h => h h1), Option.bind_some, orR, ibeq]
          exact bsomeT
        · simp only [decide_eq_false h1, Bool.not_false, cond_true, if_pos h1]
          rw [chk_t (by omega), chk_t (by omega), (fl_small ⟨j, hj⟩ ⟨n - 1 - a, by omega⟩).1]
          have hl := (fl_small ⟨j, hj⟩ ⟨n - 1 - a, by omega⟩).2
          rw [(fl_small ⟨fl j (n - 1 - a), hl⟩ ⟨n - 1 - b, by omega⟩).1]
          simp only [Option.bind_some, orR, ibeq]
          exact bsomeT
      · rw [hk, hc]
        simp only [show ((11 : Int) == 9) = false from rfl, show ((11 : Int) == 11) = true from rfl, show ((11 : Int) == 10) = false from rfl, Bool.true_and, Bool.false_and, cond_false, ibne]
        have f1 := im_flip hn.2 (show a < n by omega) hi
        have f2 := im_flip hn.2 (show b < n by omega) (fl_lt hn.2 (show a < n by omega) hi)
        have hq : ∀ from_ : Nat, ((bif ((from_ : Int) == (j : Int)) then ((F_impl_small false).bind fun r_7 => (F_impl_phase (IntKind.i64.wrap (4 * r_7))).bind fun r_8 => (some (.inr (r_8, true)) : Option (Unit ⊕ (TDyadic × Bool)))) else some (.inl ())).bind <| orR fun _ => some (TDyadic.mk (TRing.mk 0 0 0 0) 0, true)) = some ((bif decide (from_ = j) then phD 0 else dZero), true) := fun from_ => by
          rw [ibeq]
          have q0' : F_impl_phase (IntKind.i64.wrap (4 * 0)) = some (phD 0) := q0
          cases decide (from_ = j) with
          | true => simp only [F_impl_small, cond_true, cond_false, Option.bind_some, q0', orR]
          | false => rfl
        by_cases h1 : bi i (n - 1 - a) = bi i (n - 1 - b)
        · simp only [decide_eq_true h1, Bool.not_true, cond_false, if_neg (show ¬ (bi i (n - 1 - a) ≠ bi i (n - 1 - b)) from fun h => h h1), Option.bind_some]
          exact hq _
        · simp only [decide_eq_false h1, Bool.not_false, cond_true, if_pos h1, f1, f2, Option.bind_some]
          exact hq _
  · have e12 : (g.Kind == 12) = true := decide_eq_true hk
    simp only [e12, cond_true, p1, q1, Option.bind_some, orR, ibeq]
    cases decide (i = j) with
    | true => exact ⟨_, rfl, rfl, o1⟩
    | false => exact ⟨_, rfl, rfl, dZero_ok⟩

theorem pow_le {n : Nat} (hn : 1 ≤ n ∧ n ≤ 5) : 2 ≤ 2 ^ n ∧ 2 ^ n ≤ 32 := by
  have : n = 1 ∨ n = 2 ∨ n = 3 ∨ n = 4 ∨ n = 5 := by omega
  rcases this with rfl | rfl | rfl | rfl | rfl <;> decide
theorem pow_dim {n : Nat} (hn : 1 ≤ n ∧ n ≤ 5) : dimB ((2 ^ n : Nat) : Int) = true := by
  have : n = 1 ∨ n = 2 ∨ n = 3 ∨ n = 4 ∨ n = 5 := by omega
  rcases this with rfl | rfl | rfl | rfl | rfl <;> decide
theorem shl_u {n : Nat} (hn : 1 ≤ n ∧ n ≤ 5) : shlK .i64 1 (IntKind.u64.wrap (n : Int)) = ((2 ^ n : Nat) : Int) := by
  have : n = 1 ∨ n = 2 ∨ n = 3 ∨ n = 4 ∨ n = 5 := by omega
  rcases this with rfl | rfl | rfl | rfl | rfl <;> decide
theorem shl_i {n : Nat} (hn : 1 ≤ n ∧ n ≤ 5) : shlK .i64 1 (n : Int) = ((2 ^ n : Nat) : Int) := by
  have : n = 1 ∨ n = 2 ∨ n = 3 ∨ n = 4 ∨ n = 5 := by omega
  rcases this with rfl | rfl | rfl | rfl | rfl <;> decide
def gcD (n : Nat) (g : TGate) (i j : Nat) : TDyadic := (F_spec_l6Cell n g i j).getD dZero
theorem gc_both {n : Nat} (hn : 1 ≤ n ∧ n ≤ 5) {g : TGate} (hg : gOk n g = true) {i j : Nat} (hi : i < 2 ^ n) (hj : j < 2 ^ n) :
    F_spec_l6Cell n g i j = some (gcD n g i j) ∧ F_impl_GateMatrix_1 i j g n = some (gcD n g i j, true) ∧ dOk (gcD n g i j) = true := by
  have := (pow_le hn).2
  obtain ⟨z, h1, h2, h3⟩ := cell_both hn hg (i := i) (j := j) (by omega) (by omega)
  have e : gcD n g i j = z := by unfold gcD; rw [h1]; rfl
  rw [e]; exact ⟨h1, h2, h3⟩
def gL (n : Nat) (g : TGate) : List TDyadic := ((F_spec_l6Gate n g).getD (TMatrix.mk 0 0 [])).Cells
theorem gate_both {n : Nat} (hn : 1 ≤ n ∧ n ≤ 5) {g : TGate} (hg : gOk n g = true) :
    F_spec_l6Gate n g = some (TMatrix.mk (2 ^ n : Nat) (2 ^ n : Nat) (gL n g)) ∧ F_impl_GateMatrix n g = some (TMatrix.mk (2 ^ n : Nat) (2 ^ n : Nat) (gL n g), true) ∧ okD (gL n g) ∧ (gL n g).length = 2 ^ n * 2 ^ n := by
  have hp := pow_le hn
  have hd := pow_dim hn
  obtain ⟨l, g1, g2, g3⟩ := grid_pure (f := gcD n g) (2 ^ n) (2 ^ n) (fun i j hi hj => (gc_both hn hg hi hj).2.2)
  have hs : F_spec_l6Gate n g = some (TMatrix.mk (2 ^ n : Nat) (2 ^ n : Nat) l) := by
    unfold F_spec_l6Gate
    rw [chk_t (by rw [wru (by omega)]; omega), shl_u hn, Int.toNat_natCast]
    have hin : ∀ (i : Nat) (s : List TDyadic), i < 2 ^ n → s.length = i * 2 ^ n → forN (F_spec_l6Gate_l2 n g i) (2 ^ n) 0 s = forN (fun j l' => (some (gcD n g i j)).bind fun z => some (l' ++ [z])) (2 ^ n) 0 s := fun i s hi hs =>
      forN_eq (G := fun j (z : List TDyadic) => z.length = i * 2 ^ n + j) (n := 2 ^ n) (fun j z hj hz => by
        unfold F_spec_l6Gate_l2
        rw [(gc_both hn hg hi hj).1]
        simp only [Option.bind_some]
        have := grid_len hi hj hp.2 hp.2
        rw [chk_t (by omega)]
        exact ⟨rfl, fun z' h => by cases h; simp [hz]; omega⟩) (2 ^ n) 0 s (by omega) (by omega)
    rw [forN_eq (f := F_spec_l6Gate_l1 n g) (g := fun i l' => forN (fun j l' => (some (gcD n g i j)).bind fun z => some (l' ++ [z])) (2 ^ n) 0 l') (G := fun i (z : List TDyadic) => z.length = i * 2 ^ n) (n := 2 ^ n) (fun i z hi hz => by
      unfold F_spec_l6Gate_l1
      rw [shl_u hn, Int.toNat_natCast, chk_t (by omega), hin i z hi hz]
      constructor
      · cases forN (fun j l' => (some (gcD n g i j)).bind fun z => some (l' ++ [z])) (2 ^ n) 0 z <;> rfl
      · intro z' h
        obtain ⟨l', h1, h2⟩ := forN_inv (f := fun j l' => (some (gcD n g i j)).bind fun z => some (l' ++ [z])) (fun j w => w.length = i * 2 ^ n + j) (2 ^ n) 0 z (by omega) (fun j s _ _ hs => ⟨_, rfl, by simp [hs]; omega⟩)
        rw [h1] at h; cases h
        rw [h2, Nat.add_mul]; omega) (2 ^ n) 0 [] (by omega) (by simp)]
    unfold gridO at g1
    rw [g1, chk_t (by omega)]; rfl
  have hl : gL n g = l := by unfold gL; rw [hs]; rfl
  rw [hl]
  refine ⟨hs, ?_, g2, g3⟩
  have hv : F_impl_IsValidGate n g = some (gOk n g) := impl_gate (by omega) g
  unfold F_impl_GateMatrix
  rw [hv, hg]
  simp only [Option.bind_some, Bool.not_true, cond_false]
  rw [chk_t (by omega), chk_t (by omega), shl_i hn]
  rw [(im_matrixOf (cell := fun x_0 x_1 => F_impl_GateMatrix_1 x_0 x_1 g n) (cellO := fun i j => some (gcD n g i j)) hd hd hp.2 hp.2 (fun i j hi hj => ⟨(gc_both hn hg hi hj).2.1, fun z hz => by cases hz; exact (gc_both hn hg hi hj).2.2⟩)).1, g1]
  rfl
/-- One gate more. -/
def runS (n E : Nat) (gs : List TGate) (i : Nat) (l : List TDyadic) : Option (List TDyadic) := match gs[i]? with | some g => mmO (gL n g) l (2 ^ n) (2 ^ n) E | none => none
def runO (n E : Nat) (gs : List TGate) (l : List TDyadic) : Option (List TDyadic) := forN (runS n E gs) gs.length 0 l
section
variable {n E : Nat} {x : TCircuit}
theorem sp_run (hn : 1 ≤ n ∧ n ≤ 5) (hq : x.Qubits = (n : Int)) (hg : x.Gates.all (gOk n) = true) (hx : x.Gates.length ≤ 400) (hE : E ≤ 32) {l : List TDyadic} (ol : okD l) (ll : l.length = 2 ^ n * E) (c : Bool) :
    ∃ l' c', F_spec_l2C_run (cB c) x (TMatrix.mk (2 ^ n : Nat) E l) = some (TMatrix.mk (2 ^ n : Nat) E l', cB c') ∧ SR (fun l => okD l ∧ l.length = 2 ^ n * E) (runO n E x.Gates l) c l' c' := by
  have hp := pow_le hn
  obtain ⟨l', c', h1, h2⟩ := sr_it (f := F_spec_l2C_run_l1 x) (enc := fun b (l : List TDyadic) => (b, ((2 ^ n : Nat) : Int), (E : Int), l)) (G := fun _ l => okD l ∧ l.length = 2 ^ n * E) (st := runS n E x.Gates) (n := x.Gates.length) (fun i b s hi hs => by
    have hgi : gOk n x.Gates[i] = true := List.all_eq_true.1 hg _ (List.getElem_mem hi)
    have hr : runS n E x.Gates i s = mmO (gL n x.Gates[i]) s (2 ^ n) (2 ^ n) E := by unfold runS; rw [List.getElem?_eq_getElem hi]
    obtain ⟨g1, _, g3, g4⟩ := gate_both hn hgi
    unfold F_spec_l2C_run_l1
    simp only [getI_nat, List.getElem?_eq_getElem hi, Option.bind_some]
    cases b with
    | true => exact ⟨s, true, rfl, hs, fun h => h, fun h => by cases h⟩
    | false =>
      obtain ⟨z, b', t1, t2⟩ := sp_times (R := 2 ^ n) (K := 2 ^ n) (C := E) g3 hs.1 g4 hs.2 hp.2 hp.2 hE false
      refine ⟨z, b', ?_, by rw [hr]; exact t2⟩
      simp only [Bool.not_false, cond_true]
      rw [hq, g1]
      simp only [Option.bind_some]
      rw [show F_spec_l2C_times (Tl2C.mk false) (TMatrix.mk (2 ^ n : Nat) (2 ^ n : Nat) (gL n x.Gates[i])) (TMatrix.mk (2 ^ n : Nat) E s) = _ from t1]
      rfl) x.Gates.length 0 l c (by omega) ⟨ol, ll⟩
  refine ⟨l', c', ?_, h2⟩
  unfold F_spec_l2C_run
  rw [chk_t (by omega), show forN (F_spec_l2C_run_l1 x) x.Gates.length 0 ((cB c).bad, (TMatrix.mk (2 ^ n : Nat) E l).Rows, (TMatrix.mk (2 ^ n : Nat) E l).Cols, (TMatrix.mk (2 ^ n : Nat) E l).Cells) = _ from h1]
  rfl
end
/-- No number, or a power of omega. -/
def pc (o : Option Nat) : TDyadic := match o with | none => dZero | some k => phD ((k % 8 : Nat) : Int)
theorem pc_ok (o : Option Nat) : dOk (pc o) = true := by
  cases o with
  | none => exact dZero_ok
  | some k => exact (phk (show k % 8 < 9 by omega)).2.2
/-- The cell of a matrix with one number a row. -/
def row1 (σ κ : Nat → Nat) (i j : Nat) : Option Nat := if j = σ i then some (κ i) else none
def gsg (n : Nat) (g : TGate) (i : Nat) : Nat :=
  if g.Kind = 2 ∨ g.Kind = 3 then fl i (n - 1 - g.A.toNat) else
  if g.Kind = 9 then (if bi i (n - 1 - g.A.toNat) = 1 then fl i (n - 1 - g.B.toNat) else i) else
  if g.Kind = 11 then (if bi i (n - 1 - g.A.toNat) ≠ bi i (n - 1 - g.B.toNat) then fl (fl i (n - 1 - g.A.toNat)) (n - 1 - g.B.toNat) else i) else i
def kap (k b : Nat) : Nat := if k = 3 then (if b = 1 then 2 else 6) else if k = 4 then 4 * b else if k = 5 then 2 * b else if k = 6 then 6 * b else if k = 7 then b else if k = 8 then 7 * b else 0
def gka (n : Nat) (g : TGate) (i : Nat) : Nat :=
  if g.Kind = 10 then (if bi i (n - 1 - g.A.toNat) = 1 ∧ bi i (n - 1 - g.B.toNat) = 1 then 4 else 0) else
  if g.Kind = 12 then 1 else
  if g.Kind ≤ 8 then kap g.Kind.toNat (bi i (n - 1 - g.A.toNat)) else 0
theorem en_val : ∀ (k : Fin 9) (a b : Fin 2), 2 ≤ k.val → enD k.val a.val b.val = pc (if k.val = 2 ∨ k.val = 3 then (if a.val = b.val then none else some (kap k.val a.val)) else if a.val = b.val then some (kap k.val a.val) else none) := by decide +kernel
theorem fl_bit : ∀ (i : Fin 32) (s : Fin 5), bi (fl i.val s.val) s.val ≠ bi i.val s.val ∧ fl i.val s.val ≠ i.val := by decide +kernel
theorem fl_dim : ∀ (n : Fin 6) (i : Fin 32) (s : Fin 5), i.val < 2 ^ n.val → s.val < n.val → fl i.val s.val < 2 ^ n.val := by decide +kernel
theorem gsg_lt {n : Nat} (hn : 1 ≤ n ∧ n ≤ 5) {g : TGate} (hg : gOk n g = true) {i : Nat} (hi : i < 2 ^ n) : gsg n g i < 2 ^ n := by
  have h32 := (pow_le hn).2
  have key : ∀ {i s : Nat}, i < 2 ^ n → s < n → fl i s < 2 ^ n := fun {i s} hi hs => fl_dim ⟨n, by omega⟩ ⟨i, by omega⟩ ⟨s, by omega⟩ hi hs
  unfold gsg
  split
  · exact key hi (by omega)
  · split
    · split
      · exact key hi (by omega)
      · exact hi
    · split
      · split
        · exact key (key hi (by omega)) (by omega)
        · exact hi
      · exact hi
theorem sg_cell {n : Nat} (hn : 1 ≤ n ∧ n ≤ 5) {g : TGate} (hg : gOk n g = true) (hk1 : g.Kind ≠ 1) {i j : Nat} (hi : i < 2 ^ n) (hj : j < 2 ^ n) : F_spec_l6Cell n g i j = some (pc (row1 (gsg n g) (gka n g) i j)) := by
  have h32 := (pow_le hn).2
  have hi' : i < 32 := by omega
  have hj' : j < 32 := by omega
  have p0 : F_spec_l2Power 0 = some (phD 0) := (phk (k := 0) (by decide)).1
  have p1 : F_spec_l2Power 1 = some (phD 1) := (phk (k := 1) (by decide)).1
  have p4 : F_spec_l2Power 4 = some (phD 4) := (phk (k := 4) (by decide)).1
  unfold F_spec_l6Cell row1 gsg gka
  rw [p0]
  simp only [Option.bind_some]
  rcases gOk_cases hg with ⟨k1, k2, a1, a2⟩ | ⟨k1, k2, a1, a2, b1, b2, hab⟩ | hk
  · obtain ⟨k, hk⟩ : ∃ k : Nat, g.Kind = k := ⟨g.Kind.toNat, by omega⟩
    obtain ⟨a, ha⟩ : ∃ a : Nat, g.A = a := ⟨g.A.toNat, by omega⟩
    have e12 : (g.Kind == 12) = false := by rw [hk]; exact decide_eq_false (by omega)
    have e9 : (g.Kind == 9) = false := by rw [hk]; exact decide_eq_false (by omega)
    have e10 : (g.Kind == 10) = false := by rw [hk]; exact decide_eq_false (by omega)
    have e11 : (g.Kind == 11) = false := by rw [hk]; exact decide_eq_false (by omega)
    have hs : (n : Int) - 1 - a = ((n - 1 - a : Nat) : Int) := by omega
    simp only [e12, e9, e10, e11, cond_false]
    rw [ha, wr (a := (n : Int) - 1) (by omega), wr (a := (n : Int) - 1 - a) (by omega), wru (a := (n : Int) - 1 - a) (by omega), chk_t (by omega), hs,
      an_small ⟨i, hi'⟩ ⟨j, hj'⟩ ⟨n - 1 - a, by omega⟩]
    simp only
    rw [sp_bit hn.2 (show a < n by omega) hi', sp_bit hn.2 (show a < n by omega) hj']
    obtain ⟨w1, w2, w3⟩ := en_small ⟨k, by omega⟩ ⟨bi i (n - 1 - a), bi_lt _ _⟩ ⟨bi j (n - 1 - a), bi_lt _ _⟩ (by simp only; omega)
    have w4 := en_val ⟨k, by omega⟩ ⟨bi i (n - 1 - a), bi_lt _ _⟩ ⟨bi j (n - 1 - a), bi_lt _ _⟩ (by simp only; omega)
    simp only at w2 w4
    obtain ⟨l, w5, w6⟩ := Option.bind_eq_some_iff.1 w2
    have hb := fl_bit ⟨i, hi'⟩ ⟨n - 1 - a, by omega⟩
    simp only at hb
    have t1 : g.Kind.toNat = k := by omega
    have t2 : (a : Int).toNat = a := Int.toNat_natCast a
    rw [t1, t2, if_neg (show ¬ g.Kind = 10 by omega), if_neg (show ¬ g.Kind = 12 by omega), if_pos (show g.Kind ≤ 8 by omega), if_neg (show ¬ g.Kind = 9 by omega), if_neg (show ¬ g.Kind = 11 by omega)]
    have val : ∀ z, (z = if i = j ∨ fl i (n - 1 - a) = j then enD k (bi i (n - 1 - a)) (bi j (n - 1 - a)) else dZero) → z = pc (if j = (if g.Kind = 2 ∨ g.Kind = 3 then fl i (n - 1 - a) else i) then some (kap k (bi i (n - 1 - a))) else none) := fun z hz => by
      rw [hz, w4]
      by_cases hx : k = 2 ∨ k = 3
      · have e1 : (if g.Kind = 2 ∨ g.Kind = 3 then fl i (n - 1 - a) else i) = fl i (n - 1 - a) := if_pos (by omega)
        have e2 : (if k = 2 ∨ k = 3 then if bi i (n - 1 - a) = bi j (n - 1 - a) then none else some (kap k (bi i (n - 1 - a))) else if bi i (n - 1 - a) = bi j (n - 1 - a) then some (kap k (bi i (n - 1 - a))) else none) = (if bi i (n - 1 - a) = bi j (n - 1 - a) then none else some (kap k (bi i (n - 1 - a)))) := if_pos hx
        rw [e1, e2]
        by_cases hf : fl i (n - 1 - a) = j
        · have e3 : (if bi i (n - 1 - a) = bi j (n - 1 - a) then none else some (kap k (bi i (n - 1 - a)))) = some (kap k (bi i (n - 1 - a))) := if_neg (by rw [← hf]; exact fun h => hb.1 h.symm)
          rw [e3, if_pos (.inr hf), if_pos hf.symm]
        · have e4 : (if j = fl i (n - 1 - a) then some (kap k (bi i (n - 1 - a))) else none) = none := if_neg (fun h => hf h.symm)
          rw [e4]
          by_cases hij : i = j
          · have e3 : (if bi i (n - 1 - a) = bi j (n - 1 - a) then none else some (kap k (bi i (n - 1 - a)))) = none := if_pos (by rw [hij])
            rw [e3, if_pos (.inl hij)]
          · rw [if_neg (show ¬ (i = j ∨ fl i (n - 1 - a) = j) by intro h; rcases h with h | h <;> contradiction)]; rfl
      · have e1 : (if g.Kind = 2 ∨ g.Kind = 3 then fl i (n - 1 - a) else i) = i := if_neg (by omega)
        have e2 : (if k = 2 ∨ k = 3 then if bi i (n - 1 - a) = bi j (n - 1 - a) then none else some (kap k (bi i (n - 1 - a))) else if bi i (n - 1 - a) = bi j (n - 1 - a) then some (kap k (bi i (n - 1 - a))) else none) = (if bi i (n - 1 - a) = bi j (n - 1 - a) then some (kap k (bi i (n - 1 - a))) else none) := if_neg hx
        rw [e1, e2]
        by_cases hij : i = j
        · have e3 : (if bi i (n - 1 - a) = bi j (n - 1 - a) then some (kap k (bi i (n - 1 - a))) else none) = some (kap k (bi i (n - 1 - a))) := if_pos (by rw [hij])
          rw [e3, if_pos (.inl hij), if_pos hij.symm]
        · have e4 : (if j = i then some (kap k (bi i (n - 1 - a))) else none) = none := if_neg (fun h => hij h.symm)
          rw [e4]
          by_cases hf : fl i (n - 1 - a) = j
          · have e3 : (if bi i (n - 1 - a) = bi j (n - 1 - a) then some (kap k (bi i (n - 1 - a))) else none) = none := if_neg (by rw [← hf]; exact fun h => hb.1 h.symm)
            rw [e3, if_pos (.inr hf)]
          · rw [if_neg (show ¬ (i = j ∨ fl i (n - 1 - a) = j) by intro h; rcases h with h | h <;> contradiction)]; rfl
    by_cases hij : i = j
    · rw [decide_eq_true hij]
      simp only [Bool.true_or, Bool.not_true, cond_false]
      rw [hk, w5]
      simp only [Option.bind_some, w6, orR, Option.some.injEq]
      have hh := val _ (if_pos (.inl hij)).symm
      rw [hk] at hh
      exact hh
    · rw [decide_eq_false hij]
      by_cases hf : fl i (n - 1 - a) = j
      · rw [decide_eq_true hf]
        simp only [Bool.or_true, Bool.not_true, cond_false]
        rw [hk, w5]
        simp only [Option.bind_some, w6, orR, Option.some.injEq]
        have hh := val _ (if_pos (.inr hf)).symm
        rw [hk] at hh
        exact hh
      · rw [decide_eq_false hf]
        simp only [Bool.or_self, Bool.not_false, cond_true, Option.bind_some, orR, Option.some.injEq]
        exact val _ (by rw [if_neg (by intro h; rcases h with h | h <;> contradiction)]; rfl)
  · obtain ⟨a, ha⟩ : ∃ a : Nat, g.A = a := ⟨g.A.toNat, by omega⟩
    obtain ⟨b, hb⟩ : ∃ b : Nat, g.B = b := ⟨g.B.toNat, by omega⟩
    have hs : (n : Int) - 1 - a = ((n - 1 - a : Nat) : Int) := by omega
    have hs' : (n : Int) - 1 - b = ((n - 1 - b : Nat) : Int) := by omega
    have e12 : (g.Kind == 12) = false := decide_eq_false (by omega)
    have c1 := sp_bit hn.2 (show a < n by omega) hj'
    have c2 := sp_bit hn.2 (show b < n by omega) hj'
    have hne : n - 1 - a ≠ n - 1 - b := by omega
    have fin_ : ∀ (t : Nat) (c : Bool) (z : TDyadic), (c = decide (t = j)) → (bif c then z else dZero) = if j = t then z else dZero := fun t c z h => by
      rw [h]
      by_cases e : t = j
      · rw [decide_eq_true e, if_pos e.symm]; rfl
      · rw [decide_eq_false e, if_neg (fun h => e h.symm)]; rfl
    have sel : ∀ (t k : Nat), (if j = t then phD ((k % 8 : Nat) : Int) else dZero) = pc (if j = t then some k else none) := fun t k => by split <;> rfl
    rw [e12, ha, hb, c1, c2, wr (a := (n : Int) - 1) (by omega), wr (a := (n : Int) - 1 - a) (by omega), wru (a := (n : Int) - 1 - a) (by omega), wr (a := (n : Int) - 1 - b) (by omega), wru (a := (n : Int) - 1 - b) (by omega), hs, hs', Int.toNat_natCast, Int.toNat_natCast]
    simp only [cond_false, Option.bind_some, gb]
    rw [if_neg (show ¬ (g.Kind = 2 ∨ g.Kind = 3) by omega), if_neg (show ¬ g.Kind = 12 by omega), if_neg (show ¬ g.Kind ≤ 8 by omega)]
    have : g.Kind = 9 ∨ g.Kind = 10 ∨ g.Kind = 11 := by omega
    rcases this with hk | hk | hk
    · have hc := cx_small ⟨i, hi'⟩ ⟨j, hj'⟩ ⟨n - 1 - a, by omega⟩ ⟨n - 1 - b, by omega⟩ hne
      simp only at hc
      rw [hk, if_pos (show (9 : Int) = 9 from rfl), if_neg (show ¬ (9 : Int) = 10 by decide)]
      have e := (fin_ _ _ (phD ((0 % 8 : Nat) : Int)) hc).trans (sel _ 0)
      simp only [show ((9 : Int) == 9) = true from rfl, cond_true, one_beq]
      by_cases h1 : bi j (n - 1 - a) = 1
      · rw [if_pos h1] at e
        simp only [decide_eq_true h1, cond_true]
        rw [chk_t (by omega), (fl_small ⟨j, hj'⟩ ⟨n - 1 - b, by omega⟩).1]
        simp only [Option.bind_some, orR, ibeq]
        rw [← e]; exact bsomeT
      · rw [if_neg h1] at e
        simp only [decide_eq_false h1, cond_false, Option.bind_some, orR, ibeq]
        rw [← e]; exact bsomeT
    · rw [hk, if_neg (show ¬ (10 : Int) = 9 by decide), if_neg (show ¬ (10 : Int) = 11 by decide), if_pos (show (10 : Int) = 10 from rfl)]
      simp only [show ((10 : Int) == 9) = false from rfl, show ((10 : Int) == 10) = true from rfl, cond_true, cond_false, one_beq]
      by_cases hij : i = j
      · subst hij
        rw [if_pos rfl]
        by_cases h1 : bi i (n - 1 - a) = 1
        · by_cases h2 : bi i (n - 1 - b) = 1
          · simp only [decide_eq_true h1, one_beq, decide_eq_true h2, cond_true, Option.bind_some, Bool.and_self, p4, orR, ibeq, decide_true, if_pos (And.intro h1 h2)]
            rfl
          · simp only [decide_eq_true h1, one_beq, decide_eq_false h2, cond_true, Option.bind_some, Bool.and_false, cond_false, orR, ibeq, decide_true, if_neg (show ¬ (bi i (n - 1 - a) = 1 ∧ bi i (n - 1 - b) = 1) from fun h => h2 h.2)]
            rfl
        · simp only [decide_eq_false h1, cond_false, cond_true, Option.bind_some, Bool.false_and, orR, ibeq, decide_true, if_neg (show ¬ (bi i (n - 1 - a) = 1 ∧ bi i (n - 1 - b) = 1) from fun h => h1 h.1)]
          rfl
      · rw [if_neg (fun h => hij h.symm)]
        have fz : ∀ {A B C D E : Int}, (bif (decide (i = j)) then some (TDyadic.mk (TRing.mk A B C D) E) else some (TDyadic.mk (TRing.mk 0 0 0 0) 0)) = some (pc none) := fun {A B C D E} => by rw [decide_eq_false hij]; rfl
        by_cases h1 : bi j (n - 1 - a) = 1
        · by_cases h2 : bi j (n - 1 - b) = 1
          · simp only [decide_eq_true h1, one_beq, decide_eq_true h2, cond_true, Option.bind_some, Bool.and_self, p4, orR, ibeq]
            exact fz
          · simp only [decide_eq_true h1, one_beq, decide_eq_false h2, cond_true, Option.bind_some, Bool.and_false, cond_false, orR, ibeq]
            exact fz
        · simp only [decide_eq_false h1, cond_false, Option.bind_some, Bool.false_and, orR, ibeq]
          exact fz
    · have hc := sw_small ⟨i, hi'⟩ ⟨j, hj'⟩ ⟨n - 1 - a, by omega⟩ ⟨n - 1 - b, by omega⟩ hne
      simp only at hc
      rw [hk, if_neg (show ¬ (11 : Int) = 9 by decide), if_pos (show (11 : Int) = 11 from rfl), if_neg (show ¬ (11 : Int) = 10 by decide)]
      have e := (fin_ _ _ (phD ((0 % 8 : Nat) : Int)) hc).trans (sel _ 0)
      simp only [show ((11 : Int) == 9) = false from rfl, show ((11 : Int) == 10) = false from rfl, show ((11 : Int) == 11) = true from rfl, cond_true, cond_false, ibne]
      by_cases h1 : bi j (n - 1 - a) = bi j (n - 1 - b)
      · rw [if_neg (show ¬ (bi j (n - 1 - a) ≠ bi j (n - 1 - b)) from fun h => h h1)] at e
        simp only [decide_eq_true h1, Bool.not_true, cond_false, Option.bind_some, orR, ibeq]
        rw [← e]; exact bsomeT
      · rw [if_pos h1] at e
        simp only [decide_eq_false h1, Bool.not_false, cond_true]
        rw [chk_t (by omega), chk_t (by omega), (fl_small ⟨j, hj'⟩ ⟨n - 1 - a, by omega⟩).1]
        have hl := (fl_small ⟨j, hj'⟩ ⟨n - 1 - a, by omega⟩).2
        rw [(fl_small ⟨fl j (n - 1 - a), hl⟩ ⟨n - 1 - b, by omega⟩).1]
        simp only [Option.bind_some, orR, ibeq]
        rw [← e]; exact bsomeT
  · have e12 : (g.Kind == 12) = true := decide_eq_true hk
    simp only [e12, cond_true, p1, Option.bind_some, orR, ibeq]
    rw [if_neg (show ¬ (g.Kind = 2 ∨ g.Kind = 3) by omega), if_neg (show ¬ g.Kind = 9 by omega), if_neg (show ¬ g.Kind = 11 by omega), if_neg (show ¬ g.Kind = 10 by omega), if_pos hk]
    by_cases h2 : i = j
    · simp only [decide_eq_true h2, cond_true]
      rw [if_pos h2.symm]; rfl
    · simp only [decide_eq_false h2, cond_false]
      rw [if_neg (fun h => h2 h.symm)]; rfl
theorem sg_one {n : Nat} (hn : 1 ≤ n ∧ n ≤ 5) {g : TGate} (hg : gOk n g = true) {k a : Nat} (hk : g.Kind = (k : Int)) (hk8 : 1 ≤ k ∧ k ≤ 8) (ha : g.A = (a : Int)) {i j : Nat} (hi : i < 2 ^ n) (hj : j < 2 ^ n) :
    gcD n g i j = if i = j ∨ fl i (n - 1 - a) = j then enD k (bi i (n - 1 - a)) (bi j (n - 1 - a)) else dZero := by
  have h32 := (pow_le hn).2
  have hi' : i < 32 := by omega
  have hj' : j < 32 := by omega
  have han : a < n := by rcases gOk_cases hg with h | h | h <;> omega
  have p0 : F_spec_l2Power 0 = some (phD 0) := (phk (k := 0) (by decide)).1
  have hcell := (gc_both hn hg hi hj).1
  generalize gcD n g i j = z at hcell
  unfold F_spec_l6Cell at hcell
  rw [p0] at hcell
  simp only [Option.bind_some] at hcell
  have e12 : (g.Kind == 12) = false := by rw [hk]; exact decide_eq_false (by omega)
  have e9 : (g.Kind == 9) = false := by rw [hk]; exact decide_eq_false (by omega)
  have e10 : (g.Kind == 10) = false := by rw [hk]; exact decide_eq_false (by omega)
  have e11 : (g.Kind == 11) = false := by rw [hk]; exact decide_eq_false (by omega)
  have hs : (n : Int) - 1 - a = ((n - 1 - a : Nat) : Int) := by omega
  simp only [e12, e9, e10, e11, cond_false] at hcell
  rw [ha, wr (a := (n : Int) - 1) (by omega), wr (a := (n : Int) - 1 - a) (by omega), wru (a := (n : Int) - 1 - a) (by omega), chk_t (by omega), hs,
    an_small ⟨i, hi'⟩ ⟨j, hj'⟩ ⟨n - 1 - a, by omega⟩] at hcell
  simp only at hcell
  rw [sp_bit hn.2 (show a < n by omega) hi', sp_bit hn.2 (show a < n by omega) hj'] at hcell
  obtain ⟨w1, w2, w3⟩ := en_small ⟨k, by omega⟩ ⟨bi i (n - 1 - a), bi_lt _ _⟩ ⟨bi j (n - 1 - a), bi_lt _ _⟩ (by simp only; omega)
  simp only at w2
  obtain ⟨l, w5, w6⟩ := Option.bind_eq_some_iff.1 w2
  by_cases hij : i = j
  · rw [decide_eq_true hij] at hcell
    simp only [Bool.true_or, Bool.not_true, cond_false] at hcell
    rw [hk, w5] at hcell
    simp only [Option.bind_some, w6, orR, Option.some.injEq] at hcell
    rw [if_pos (.inl hij)]; exact hcell.symm
  · rw [decide_eq_false hij] at hcell
    by_cases hf : fl i (n - 1 - a) = j
    · rw [decide_eq_true hf] at hcell
      simp only [Bool.or_true, Bool.not_true, cond_false] at hcell
      rw [hk, w5] at hcell
      simp only [Option.bind_some, w6, orR, Option.some.injEq] at hcell
      rw [if_pos (.inr hf)]; exact hcell.symm
    · rw [decide_eq_false hf] at hcell
      simp only [Bool.or_self, Bool.not_false, cond_true, Option.bind_some, orR, Option.some.injEq] at hcell
      rw [if_neg (by intro h; rcases h with h | h <;> contradiction)]; exact hcell.symm
theorem gL_grid {n : Nat} (hn : 1 ≤ n ∧ n ≤ 5) {g : TGate} (hg : gOk n g = true) : gridO (fun i j => some (gcD n g i j)) (2 ^ n) (2 ^ n) = some (gL n g) := by
  have hp := pow_le hn
  have hd := pow_dim hn
  have h2 := (gate_both hn hg).2.1
  have hv : F_impl_IsValidGate n g = some (gOk n g) := impl_gate (by omega) g
  unfold F_impl_GateMatrix at h2
  rw [hv, hg] at h2
  simp only [Option.bind_some, Bool.not_true, cond_false] at h2
  rw [chk_t (by omega), chk_t (by omega), shl_i hn] at h2
  rw [(im_matrixOf (cell := fun x_0 x_1 => F_impl_GateMatrix_1 x_0 x_1 g n) (cellO := fun i j => some (gcD n g i j)) hd hd hp.2 hp.2 (fun i j hi hj => ⟨(gc_both hn hg hi hj).2.1, fun z hz => by cases hz; exact (gc_both hn hg hi hj).2.2⟩)).1] at h2
  obtain ⟨l, g1, _⟩ := grid_pure (f := gcD n g) (2 ^ n) (2 ^ n) (fun i j hi hj => (gc_both hn hg hi hj).2.2)
  rw [g1] at h2 ⊢
  simp only [mR, Option.bind_some, Option.some.injEq, Prod.mk.injEq, TMatrix.mk.injEq, and_true, true_and] at h2
  rw [h2]
theorem gL_get {n : Nat} (hn : 1 ≤ n ∧ n ≤ 5) {g : TGate} (hg : gOk n g = true) {i j : Nat} (hi : i < 2 ^ n) (hj : j < 2 ^ n) : (gL n g).getD (i * 2 ^ n + j) dZero = gcD n g i j :=
  (Option.some.inj ((grid_get (gL_grid hn hg)).2 i j hi hj)).symm
theorem forN_shift {σ : Type} {f : Nat → σ → Option σ} : ∀ (k i : Nat) (s : σ), forN f k (i + 1) s = forN (fun j => f (j + 1)) k i s
  | 0, _, _ => rfl
  | k + 1, i, s => by
    show (f (i + 1) s).bind _ = (f (i + 1) s).bind _
    cases f (i + 1) s with
    | none => rfl
    | some z => exact forN_shift k (i + 1) z
theorem run_cons (n E : Nat) (g : TGate) (t : List TGate) (l : List TDyadic) : runO n E (g :: t) l = (mmO (gL n g) l (2 ^ n) (2 ^ n) E).bind fun z => runO n E t z := by
  unfold runO
  show (runS n E (g :: t) 0 l).bind _ = _
  have : runS n E (g :: t) 0 l = mmO (gL n g) l (2 ^ n) (2 ^ n) E := rfl
  rw [this]
  congr 1
  funext z
  show forN (runS n E (g :: t)) t.length (0 + 1) z = _
  rw [forN_shift]
  rfl
theorem eSum_two {f : Nat → TRing} {s t : Nat} : ∀ {n : Nat}, s < n → t < n → s ≠ t → (∀ k, k < n → k ≠ s → k ≠ t → f k = rZero) → eSum n f = rPlus (f s) (f t)
  | 0, h, _, _, _ => absurd h (Nat.not_lt_zero _)
  | n + 1, hs, ht, hst, hz => by
    show rPlus (eSum n f) (f n) = _
    by_cases h1 : s = n
    · subst h1
      rw [eSum_one (show t < s by omega) (fun k hk hne => hz k (by omega) (by omega) hne), plus_comm]
    · by_cases h2 : t = n
      · subst h2
        rw [eSum_one (show s < t by omega) (fun k hk hne => hz k (by omega) hne (by omega))]
      · rw [eSum_two (show s < n by omega) (show t < n by omega) hst (fun k hk a b => hz k (by omega) a b), hz n (by omega) (fun h => h1 h.symm) (fun h => h2 h.symm), plus_zero]
def rOne' : TRing := TRing.mk 1 0 0 0
theorem conj_zero : rConj rZero = rZero := by decide
theorem zero_mul' (x : TRing) : eMul rZero x = rZero := by rw [eMul_comm, eMul_zero]
theorem one_mul' (x : TRing) : eMul rOne' x = x := by simp [eMul, rOne']
theorem v_dz' : vOf dZero = rZero := it_z _
/-- The absolute square of a number's value. -/
def aSq (x y : TRing) : TRing := eMul x (rConj y)
theorem ph_sq : ∀ k : Fin 8, (phD (k.val : Int)).Exp = 0 ∧ eMul (phD (k.val : Int)).Num (rConj (phD (k.val : Int)).Num) = rOne' := by decide +kernel
theorem aSq_it (a b : Nat) (x y : TRing) : aSq (rIt a x) (rIt b y) = rIt (a + b) (aSq x y) := by
  unfold aSq
  rw [← conj_it, it_mul, it_mul', ← rIt_add]
theorem pc_sq (k : Nat) : aSq (vOf (pc (some k))) (vOf (pc (some k))) = rIt 120 rOne' := by
  obtain ⟨h1, h2⟩ := ph_sq ⟨k % 8, by omega⟩
  simp only at h1 h2
  unfold vOf pc
  simp only
  rw [h1, aSq_it]
  unfold aSq
  rw [h2]
  rfl
theorem g_inv : ∀ (n : Fin 6) (i : Fin 32) (s t : Fin 5), fl (fl i.val s.val) s.val = i.val := by decide +kernel
theorem fl_fl {i s : Nat} (hi : i < 32) (hs : s < 5) : fl (fl i s) s = i := g_inv 0 ⟨i, hi⟩ ⟨s, hs⟩ 0
theorem fl_far : ∀ (i : Fin 32) (s t : Fin 5), s.val ≠ t.val → bi (fl i.val s.val) t.val = bi i.val t.val ∧ bi (fl i.val s.val) s.val = 1 - bi i.val s.val := by decide +kernel
theorem fl_comm : ∀ (i : Fin 32) (s t : Fin 5), fl (fl i.val s.val) t.val = fl (fl i.val t.val) s.val := by decide +kernel
theorem fl_32 : ∀ (i : Fin 32) (s : Fin 5), fl i.val s.val < 32 := by decide +kernel
/-- A gate's permutation is its own inverse. -/
theorem gsg_gsg {n : Nat} (hn : 1 ≤ n ∧ n ≤ 5) {g : TGate} (hg : gOk n g = true) {i : Nat} (hi : i < 2 ^ n) : gsg n g (gsg n g i) = i := by
  have h32 := (pow_le hn).2
  have hi' : i < 32 := by omega
  rcases gOk_cases hg with ⟨k1, k2, a1, a2⟩ | ⟨k1, k2, a1, a2, b1, b2, hab⟩ | hk
  · obtain ⟨a, ha⟩ : ∃ a : Nat, g.A = a := ⟨g.A.toNat, by omega⟩
    unfold gsg
    rw [ha, Int.toNat_natCast, if_neg (show ¬ g.Kind = 9 by omega), if_neg (show ¬ g.Kind = 11 by omega)]
    by_cases hx : g.Kind = 2 ∨ g.Kind = 3
    · rw [if_pos hx, if_pos hx]; exact fl_fl hi' (by omega)
    · rw [if_neg hx, if_neg hx, if_neg (show ¬ g.Kind = 9 by omega), if_neg (show ¬ g.Kind = 11 by omega)]
  · obtain ⟨a, ha⟩ : ∃ a : Nat, g.A = a := ⟨g.A.toNat, by omega⟩
    obtain ⟨b, hb⟩ : ∃ b : Nat, g.B = b := ⟨g.B.toNat, by omega⟩
    have hne : n - 1 - a ≠ n - 1 - b := by omega
    unfold gsg
    rw [ha, hb, Int.toNat_natCast, Int.toNat_natCast, if_neg (show ¬ (g.Kind = 2 ∨ g.Kind = 3) by omega), if_neg (show ¬ (g.Kind = 2 ∨ g.Kind = 3) by omega)]
    have hfb := fl_far ⟨i, hi'⟩ ⟨n - 1 - b, by omega⟩ ⟨n - 1 - a, by omega⟩ (by simp only; omega)
    have hfa := fl_far ⟨i, hi'⟩ ⟨n - 1 - a, by omega⟩ ⟨n - 1 - b, by omega⟩ (by simp only; omega)
    simp only at hfa hfb
    have hila := fl_32 ⟨i, hi'⟩ ⟨n - 1 - a, by omega⟩
    simp only at hila
    have hlb := bi_lt i (n - 1 - b)
    have hla := bi_lt i (n - 1 - a)
    by_cases h9 : g.Kind = 9
    · rw [if_pos h9, if_pos h9]
      by_cases h1 : bi i (n - 1 - a) = 1
      · rw [if_pos h1, if_pos (by rw [hfb.1]; exact h1)]; exact fl_fl hi' (by omega)
      · rw [if_neg h1, if_neg h1]
    · rw [if_neg h9, if_neg h9]
      by_cases h11 : g.Kind = 11
      · rw [if_pos h11, if_pos h11]
        by_cases h1 : bi i (n - 1 - a) ≠ bi i (n - 1 - b)
        · have hff := fl_far ⟨fl i (n - 1 - a), hila⟩ ⟨n - 1 - b, by omega⟩ ⟨n - 1 - a, by omega⟩ (by simp only; omega)
          simp only at hff
          rw [if_pos h1, if_pos (by rw [hff.1, hff.2, hfa.1, hfa.2]; omega)]
          have hc := fl_comm ⟨fl i (n - 1 - a), hila⟩ ⟨n - 1 - b, by omega⟩ ⟨n - 1 - a, by omega⟩
          simp only at hc
          rw [hc, fl_fl hi' (by omega)]
          exact fl_fl hi' (by omega)
        · rw [if_neg h1, if_neg h1]
      · rw [if_neg h11, if_neg h11]
  · unfold gsg
    rw [if_neg (show ¬ (g.Kind = 2 ∨ g.Kind = 3) by omega), if_neg (show ¬ (g.Kind = 2 ∨ g.Kind = 3) by omega), if_neg (show ¬ g.Kind = 9 by omega), if_neg (show ¬ g.Kind = 11 by omega), if_neg (show ¬ g.Kind = 9 by omega), if_neg (show ¬ g.Kind = 11 by omega)]
theorem en_h : ∀ a b : Fin 2, enD 1 a.val b.val = (if a.val = 1 ∧ b.val = 1 then TDyadic.mk (TRing.mk (-1) 0 0 0) 1 else TDyadic.mk rOne' 1) := by decide +kernel
def hv (s : Int) : TRing := rIt 59 (TRing.mk s 0 0 0)
theorem h_sq (s t : Int) (h : s * t = 1) : aSq (hv s) (hv t) = rIt 118 rOne' := by
  unfold hv
  rw [aSq_it]
  have : aSq (TRing.mk s 0 0 0) (TRing.mk t 0 0 0) = rOne' := by simp [aSq, eMul, rConj, rOne', h]
  rw [this]
theorem h_neg (s t : Int) (h : s * t = -1) : aSq (hv s) (hv t) = rIt 118 (TRing.mk (-1) 0 0 0) := by
  unfold hv
  rw [aSq_it]
  have : aSq (TRing.mk s 0 0 0) (TRing.mk t 0 0 0) = TRing.mk (-1) 0 0 0 := by simp [aSq, eMul, rConj, h]
  rw [this]
theorem two_half : rPlus (rIt 118 rOne') (rIt 118 rOne') = rIt 120 rOne' := by
  rw [← rIt_plus]
  show rIt 118 _ = rIt 118 (rRoot (rRoot rOne'))
  rfl
theorem half_zero : rPlus (rIt 118 rOne') (rIt 118 (TRing.mk (-1) 0 0 0)) = rZero := by
  rw [← rIt_plus]
  show rIt 118 rZero = rZero
  exact it_z _
/-- The columns of a gate are of weight one, and at right angles. -/
theorem gate_uni {n : Nat} (hn : 1 ≤ n ∧ n ≤ 5) {g : TGate} (hg : gOk n g = true) {k m : Nat} (hk : k < 2 ^ n) (hm : m < 2 ^ n) : eSum (2 ^ n) (fun i => aSq (vM (gL n g) (2 ^ n) i k) (vM (gL n g) (2 ^ n) i m)) = if k = m then rIt 120 rOne' else rZero := by
  have h32 := (pow_le hn).2
  have cell : ∀ i j, i < 2 ^ n → j < 2 ^ n → vM (gL n g) (2 ^ n) i j = vOf (gcD n g i j) := fun i j hi hj => by
    unfold vM; rw [gL_get hn hg hi hj]
  rw [eSum_congr (g := fun i => aSq (vOf (gcD n g i k)) (vOf (gcD n g i m))) (fun i hi => by rw [cell i k hi hk, cell i m hi hm])]
  by_cases h1 : g.Kind = 1
  · obtain ⟨a, ha, han⟩ : ∃ a : Nat, g.A = a ∧ a < n := by
      rcases gOk_cases hg with h | h | h
      · exact ⟨g.A.toNat, by omega, by omega⟩
      · omega
      · omega
    have hs : n - 1 - a < 5 := by omega
    have hone : ∀ i j, i < 2 ^ n → j < 2 ^ n → gcD n g i j = if i = j ∨ fl i (n - 1 - a) = j then enD 1 (bi i (n - 1 - a)) (bi j (n - 1 - a)) else dZero := fun i j hi hj => sg_one (k := 1) hn hg (by rw [h1]; rfl) ⟨by decide, by decide⟩ ha hi hj
    have hfk : fl k (n - 1 - a) < 2 ^ n := fl_dim ⟨n, by omega⟩ ⟨k, by omega⟩ ⟨n - 1 - a, hs⟩ hk (by simp only; omega)
    have hff := fl_fl (i := k) (by omega) hs
    have hbk := fl_bit ⟨k, by omega⟩ ⟨n - 1 - a, hs⟩
    simp only at hbk
    have hb1 := bi_lt k (n - 1 - a)
    have hb2 := bi_lt (fl k (n - 1 - a)) (n - 1 - a)
    have en : ∀ i j : Nat, enD 1 (bi i (n - 1 - a)) (bi j (n - 1 - a)) = (if bi i (n - 1 - a) = 1 ∧ bi j (n - 1 - a) = 1 then TDyadic.mk (TRing.mk (-1) 0 0 0) 1 else TDyadic.mk rOne' 1) := fun i j => en_h ⟨_, bi_lt _ _⟩ ⟨_, bi_lt _ _⟩
    have hz : ∀ i, i < 2 ^ n → i ≠ k → i ≠ fl k (n - 1 - a) → aSq (vOf (gcD n g i k)) (vOf (gcD n g i m)) = rZero := fun i hi h2 h3 => by
      have hnf : ¬ (i = k ∨ fl i (n - 1 - a) = k) := by
        rintro (h | h)
        · exact h2 h
        · exact h3 (by rw [← h]; exact (fl_fl (i := i) (by omega) hs).symm)
      rw [hone i k hi hk, if_neg hnf, v_dz']
      unfold aSq; exact zero_mul' _
    rw [eSum_two (s := k) (t := fl k (n - 1 - a)) hk hfk (fun h => hbk.2 h.symm) hz]
    have c1 : gcD n g k k = enD 1 (bi k (n - 1 - a)) (bi k (n - 1 - a)) := by rw [hone k k hk hk, if_pos (.inl rfl)]
    have c2 : gcD n g (fl k (n - 1 - a)) k = enD 1 (bi (fl k (n - 1 - a)) (n - 1 - a)) (bi k (n - 1 - a)) := by rw [hone _ k hfk hk, if_pos (.inr hff)]
    rw [c1, c2, en, en]
    by_cases hkm : k = m
    · subst hkm
      rw [if_pos rfl, c1, c2, en, en]
      by_cases hb : bi k (n - 1 - a) = 1
      · rw [if_pos ⟨hb, hb⟩, if_neg (show ¬ (bi (fl k (n - 1 - a)) (n - 1 - a) = 1 ∧ bi k (n - 1 - a) = 1) by omega)]
        show rPlus (aSq (hv (-1)) (hv (-1))) (aSq (hv 1) (hv 1)) = _
        rw [h_sq (-1) (-1) rfl, h_sq 1 1 rfl, two_half]
      · rw [if_neg (fun h => hb h.1), if_neg (fun h => hb h.2)]
        show rPlus (aSq (hv 1) (hv 1)) (aSq (hv 1) (hv 1)) = _
        rw [h_sq 1 1 rfl, two_half]
    · rw [if_neg hkm]
      by_cases hmf : m = fl k (n - 1 - a)
      · subst hmf
        have c3 : gcD n g k (fl k (n - 1 - a)) = enD 1 (bi k (n - 1 - a)) (bi (fl k (n - 1 - a)) (n - 1 - a)) := by rw [hone k _ hk hfk, if_pos (.inr rfl)]
        have c4 : gcD n g (fl k (n - 1 - a)) (fl k (n - 1 - a)) = enD 1 (bi (fl k (n - 1 - a)) (n - 1 - a)) (bi (fl k (n - 1 - a)) (n - 1 - a)) := by rw [hone _ _ hfk hfk, if_pos (.inl rfl)]
        rw [c3, c4, en, en]
        by_cases hb : bi k (n - 1 - a) = 1
        · rw [if_pos ⟨hb, hb⟩, if_neg (show ¬ (bi (fl k (n - 1 - a)) (n - 1 - a) = 1 ∧ bi k (n - 1 - a) = 1) by omega), if_neg (show ¬ (bi k (n - 1 - a) = 1 ∧ bi (fl k (n - 1 - a)) (n - 1 - a) = 1) by omega), if_neg (show ¬ (bi (fl k (n - 1 - a)) (n - 1 - a) = 1 ∧ bi (fl k (n - 1 - a)) (n - 1 - a) = 1) by omega)]
          show rPlus (aSq (hv (-1)) (hv 1)) (aSq (hv 1) (hv 1)) = _
          rw [h_neg (-1) 1 rfl, h_sq 1 1 rfl, plus_comm, half_zero]
        · rw [if_neg (show ¬ (bi k (n - 1 - a) = 1 ∧ bi k (n - 1 - a) = 1) by omega), if_neg (show ¬ (bi k (n - 1 - a) = 1 ∧ bi (fl k (n - 1 - a)) (n - 1 - a) = 1) by omega), if_neg (show ¬ (bi (fl k (n - 1 - a)) (n - 1 - a) = 1 ∧ bi k (n - 1 - a) = 1) by omega), if_pos (show bi (fl k (n - 1 - a)) (n - 1 - a) = 1 ∧ bi (fl k (n - 1 - a)) (n - 1 - a) = 1 by omega)]
          show rPlus (aSq (hv 1) (hv 1)) (aSq (hv 1) (hv (-1))) = _
          rw [h_neg 1 (-1) rfl, h_sq 1 1 rfl, half_zero]
      · have c3 : gcD n g k m = dZero := by rw [hone k m hk hm, if_neg (by rintro (h | h); exact hkm h; exact hmf h.symm)]
        have c4 : gcD n g (fl k (n - 1 - a)) m = dZero := by rw [hone _ m hfk hm, if_neg (by rintro (h | h); exact hmf h.symm; exact hkm (by rw [← h, hff]))]
        rw [c3, c4, v_dz']
        unfold aSq
        rw [conj_zero, eMul_zero, eMul_zero]; rfl
  · have hc : ∀ i j, i < 2 ^ n → j < 2 ^ n → gcD n g i j = pc (row1 (gsg n g) (gka n g) i j) := fun i j hi hj => by
      have := sg_cell hn hg h1 hi hj
      unfold gcD
      rw [this]; rfl
    have hgk := gsg_lt hn hg hk
    have hz : ∀ i, i < 2 ^ n → i ≠ gsg n g k → aSq (vOf (gcD n g i k)) (vOf (gcD n g i m)) = rZero := fun i hi h2 => by
      rw [hc i k hi hk]
      unfold row1
      rw [if_neg (fun h => h2 (by rw [h]; exact (gsg_gsg hn hg hi).symm))]
      show aSq (vOf dZero) _ = rZero
      rw [v_dz']
      unfold aSq; exact zero_mul' _
    rw [eSum_one (s := gsg n g k) hgk hz, hc _ k hgk hk, hc _ m hgk hm]
    unfold row1
    rw [gsg_gsg hn hg hk, if_pos rfl]
    by_cases hkm : k = m
    · subst hkm
      rw [if_pos rfl, if_pos rfl, pc_sq]
    · rw [if_neg (fun h => hkm h.symm), if_neg hkm]
      show aSq _ (vOf dZero) = rZero
      rw [v_dz']
      unfold aSq
      rw [conj_zero, eMul_zero]
def gram (l : List TDyadic) (N E j m : Nat) : TRing := eSum N (fun i => aSq (vM l E i j) (vM l E i m))
theorem sum_sum_mul (N : Nat) (f g : Nat → TRing) : eMul (eSum N f) (eSum N g) = eSum N (fun k => eSum N (fun m => eMul (f k) (g m))) := by
  rw [sum_mul]
  exact eSum_congr fun k _ => mul_sum _ _ _
theorem gram_step {n E : Nat} (hn : 1 ≤ n ∧ n ≤ 5) {g : TGate} (hg : gOk n g = true) {l l' : List TDyadic} (ol : okD l) (h : mmO (gL n g) l (2 ^ n) (2 ^ n) E = some l') {j m : Nat} (hj : j < E) (hm : m < E) : gram l' (2 ^ n) E j m = gram l (2 ^ n) E j m := by
  obtain ⟨_, _, og, lg⟩ := gate_both hn hg
  obtain ⟨m1, m2, m3⟩ := mm_val og ol h
  refine it_inj 120 ?_
  unfold gram
  rw [it_sum]
  have e1 : ∀ i, i < 2 ^ n → rIt 120 (aSq (vM l' E i j) (vM l' E i m)) = eSum (2 ^ n) (fun p => eSum (2 ^ n) (fun q => eMul (aSq (vM (gL n g) (2 ^ n) i p) (vM (gL n g) (2 ^ n) i q)) (aSq (vM l E p j) (vM l E q m)))) := fun i hi => by
    have : rIt 120 (aSq (vM l' E i j) (vM l' E i m)) = aSq (rIt 60 (vM l' E i j)) (rIt 60 (vM l' E i m)) := (aSq_it 60 60 _ _).symm
    rw [this, m3 i j hi hj, m3 i m hi hm]
    unfold aSq
    rw [conj_sum, sum_sum_mul]
    refine eSum_congr fun p _ => eSum_congr fun q _ => ?_
    rw [← conj_mul]
    generalize vM (gL n g) (2 ^ n) i p = a
    generalize vM l E p j = b
    generalize rConj (vM (gL n g) (2 ^ n) i q) = c
    generalize rConj (vM l E q m) = d
    rw [eMul_assoc, eMul_assoc, ← eMul_assoc b c d, eMul_comm b c, eMul_assoc c b d]
  rw [eSum_congr e1, eSum_swap]
  rw [eSum_congr (g := fun p => rIt 120 (aSq (vM l E p j) (vM l E p m))) (fun p hp => by
    rw [eSum_swap]
    have e2 : ∀ q, q < 2 ^ n → eSum (2 ^ n) (fun i => eMul (aSq (vM (gL n g) (2 ^ n) i p) (vM (gL n g) (2 ^ n) i q)) (aSq (vM l E p j) (vM l E q m))) = if p = q then rIt 120 (aSq (vM l E p j) (vM l E q m)) else rZero := fun q hq => by
      rw [← sum_mul, gate_uni hn hg hp hq]
      by_cases hpq : p = q
      · rw [if_pos hpq, if_pos hpq, it_mul, one_mul']
      · rw [if_neg hpq, if_neg hpq, zero_mul']
    rw [eSum_congr e2, eSum_one (s := p) hp (fun q _ hqp => if_neg (fun h => hqp h.symm)), if_pos rfl])]
  exact (it_sum 120 _ _).symm
theorem gate_d (n : Nat) (hn : 1 ≤ n ∧ n ≤ 6) (kinds : List Int) (hk : 1 ≤ kinds.length ∧ kinds.length ≤ 1000) (hr : ∀ x ∈ kinds, 1 ≤ x ∧ x ≤ 12) : Dr (fun c => F_spec_l1Cur_gate c (n : Int) kinds) (fun g => gOk n g = true) 8 := fun code a s k hb h0 h1 h2 => by
  unfold F_spec_l1Cur_gate
  obtain ⟨v1, a1, s1, e1, p1, q1, r1⟩ := pick_d (kinds.length : Int) (by omega) code a s k hb h0 h1 (by omega)
  simp only at e1 ⊢
  rw [e1]; simp only [Option.bind_some]
  obtain ⟨x, hx, hx2⟩ := getI_at (l := kinds) (i := v1) p1.1 (by omega)
  have hxr := hr x (List.mem_of_getElem? hx2)
  rw [hx]; simp only [Option.bind_some]
  by_cases h12 : x = 12
  · subst h12
    simp only [beq_self_eq_true, cond_true]
    exact ⟨_, _, _, rfl, by unfold gOk; simp, q1, by first | omega | (simp only; omega)⟩
  · have e12 : (x == 12) = false := by simp [h12]
    rw [e12]
    simp only [cond_false]
    obtain ⟨v2, a2, s2, e2, p2, q2, r2⟩ := pick_d (n : Int) (by omega) code a1 s1 (k + 2) hb q1 r1 (by omega)
    simp only at e2
    rw [e2]; simp only [Option.bind_some]
    unfold F_spec_l1In
    simp only [Option.bind_some]
    by_cases h9 : 9 ≤ x ∧ x ≤ 11
    · rw [decide_eq_true h9.1, decide_eq_true h9.2]
      simp only [Bool.and_self, cond_true]
      by_cases hn1 : n = 1
      · subst hn1
        simp only [beq_self_eq_true, cond_true, Option.bind_some, orR, show (((1 : Nat) : Int) == 1) = true from rfl]
        exact ⟨_, _, _, rfl, by unfold gOk; simp, q2, by first | omega | (simp only; omega)⟩
      · have en : ((n : Int) == 1) = false := by simp; omega
        rw [en]
        simp only [cond_false]
        rw [wrap_i64 (a := (n : Int) - 1) ⟨by omega, by omega⟩]
        obtain ⟨v3, a3, s3, e3, p3, q3, r3⟩ := pick_d ((n : Int) - 1) (by omega) code a2 s2 (k + 2 + 2) hb q2 r2 (by omega)
        simp only at e3
        rw [e3]; simp only [Option.bind_some]
        have hv2 := pick_lt p2 (by omega)
        have hv3 := pick_lt p3 (by omega)
        rw [chk_t (by omega), wrap_i64 (a := v2 + 1) ⟨by omega, by omega⟩, wrap_i64 (a := v2 + 1 + v3) ⟨by omega, by omega⟩]
        have w0 : 0 ≤ Int.tmod (v2 + 1 + v3) (n : Int) := Int.tmod_nonneg _ (by omega)
        have w1 : Int.tmod (v2 + 1 + v3) (n : Int) < (n : Int) := Int.tmod_lt_of_pos _ (by omega)
        have wne : Int.tmod (v2 + 1 + v3) (n : Int) ≠ v2 := by
          rw [Int.tmod_eq_emod_of_nonneg (by omega)]
          by_cases hlt : v2 + 1 + v3 < (n : Int)
          · rw [Int.emod_eq_of_lt (by omega) hlt]; omega
          · have : (v2 + 1 + v3) % (n : Int) = v2 + 1 + v3 - (n : Int) := by
              rw [← Int.sub_emod_right, Int.emod_eq_of_lt (by omega) (by omega)]
            rw [this]; omega
        simp only [Option.bind_some, orR]
        refine ⟨_, _, _, rfl, ?_, q3, by first | omega | (simp only; omega)⟩
        generalize Int.tmod (v2 + 1 + v3) (n : Int) = w at w0 w1 wne
        unfold gOk
        simp only
        rw [show (decide (1 ≤ x) && decide (x ≤ 8)) = false by simp; omega, decide_eq_true h9.1, decide_eq_true h9.2, decide_eq_true hv2.1, decide_eq_true (show v2 ≤ (n : Int) - 1 by omega), decide_eq_true w0, decide_eq_true (show w ≤ (n : Int) - 1 by omega)]
        simp
        omega
    · have e9 : (decide (9 ≤ x) && decide (x ≤ 11)) = false := by
        simp only [Bool.and_eq_false_iff, decide_eq_false_iff_not]; omega
      rw [e9]
      simp only [cond_false, Option.bind_some, orR]
      have hv2 := pick_lt p2 (by omega)
      refine ⟨_, _, _, rfl, ?_, q2, by first | omega | (simp only; omega)⟩
      unfold gOk
      simp only
      rw [decide_eq_true hxr.1, decide_eq_true (show x ≤ 8 by omega), decide_eq_true hv2.1, decide_eq_true (show v2 ≤ (n : Int) - 1 by omega)]
      rfl
theorem built_d (n : Nat) (hn : 1 ≤ n ∧ n ≤ 6) (most : Nat) (hm : most ≤ 100) (kinds : List Int) (hk : 1 ≤ kinds.length ∧ kinds.length ≤ 1000) (hr : ∀ x ∈ kinds, 1 ≤ x ∧ x ≤ 12) : Dr (fun c => F_spec_l1Cur_built c (n : Int) (most : Int) kinds) (fun c => c.Qubits = (n : Int) ∧ c.Gates.length ≤ most ∧ c.Gates.all (gOk n) = true) 1000 := fun code a s k hb h0 h1 h2 => by
  unfold F_spec_l1Cur_built
  simp only
  rw [wrap_i64 (a := (most : Int) + 1) ⟨by omega, by omega⟩]
  obtain ⟨v1, a1, s1, e1, p1, q1, r1⟩ := pick_d ((most : Int) + 1) (by omega) code a s k hb h0 h1 (by omega)
  simp only at e1
  rw [e1]; simp only [Option.bind_some]
  have hv1 := pick_lt p1 (by omega)
  have hs := whX_inv (f := F_spec_l1Cur_built_l1 (Tl1Cur.mk code a s) (n : Int) kinds) (fun t => 0 ≤ t.2.2.2 ∧ 0 ≤ t.1 ∧ t.1 + 8 * t.2.2.2 ≤ ((k + 2 + 8 * most : Nat) : Int) ∧ (t.2.2.1.length : Int) + t.2.2.2 ≤ (most : Int) ∧ t.2.2.1.all (gOk n) = true) (fun t => 0 ≤ t.1 ∧ t.1 ≤ ((k + 2 + 8 * most : Nat) : Int) ∧ t.2.2.1.length ≤ most ∧ t.2.2.1.all (gOk n) = true) (fun _ : TCircuit × Tl1Cur => False) (fun t => t.2.2.2.toNat) (fun t ht => by
    obtain ⟨b1, z1, G, k_⟩ := t
    obtain ⟨t1, t2, t3, t4, t5⟩ := ht
    simp only at t1 t2 t3 t4 t5
    unfold F_spec_l1Cur_built_l1
    simp only
    by_cases hk0 : 0 < k_
    · rw [decide_eq_true hk0]
      simp only [cond_true]
      obtain ⟨v2, a2, s2, e2, p2, q2, r2⟩ := gate_d n hn kinds hk hr code b1 z1 b1.toNat hb t2 (by omega) (by omega)
      simp only at e2
      rw [e2]; simp only [Option.bind_some]
      rw [chk_t (by omega), wrap_i64 (a := k_ - 1) ⟨by omega, by omega⟩]
      exact .inl ⟨_, rfl, ⟨by simp only; omega, q2, by simp only; omega, by simp only [List.length_append, List.length_singleton]; omega, by simp only [List.all_append, t5, List.all_cons, List.all_nil, p2, Bool.and_self]⟩, by simp only; omega⟩
    · rw [decide_eq_false hk0]
      exact .inr (.inl ⟨_, rfl, t2, by simp only; omega, by simp only; omega, t5⟩)) fuel (a1, s1, [], v1) ⟨by simp only; omega, q1, by simp only; omega, by simp only [List.length_nil]; omega, rfl⟩ (fuelB (by simp only; omega))
  rcases hs with ⟨⟨b1, z1, G, k_⟩, w1, w2, w3, w4, w5⟩ | ⟨r, _, hr⟩
  · rw [w1]
    simp only at w2 w3 w4 w5
    exact ⟨_, _, _, rfl, ⟨rfl, w4, w5⟩, w2, by first | omega | (simp only; omega)⟩
  · exact hr.elim
def rNg (x : TRing) : TRing := TRing.mk (-x.A) (-x.B) (-x.C) (-x.D)
def dNeg (x : TDyadic) : TDyadic := TDyadic.mk (rNg x.Num) x.Exp
theorem neg_ok (x : TRing) : rOk (rNg x) = rOk x := by
  rw [Bool.eq_iff_iff, rOk_iff, rOk_iff]
  unfold rNg
  simp only
  omega
theorem neg_root (x : TRing) : rRoot (rNg x) = rNg (rRoot x) := by
  unfold rRoot rNg
  simp only [TRing.mk.injEq]
  omega
theorem neg_zero : rNg rZero = rZero := by decide
theorem spec_neg {y : TDyadic} (h : rOk y.Num = true) : F_spec_l2Neg y = some (dNeg y) := by
  rw [rOk_iff] at h
  unfold F_spec_l2Neg F_spec_l1Neg
  rw [wr (a := -y.Num.A) (by omega), wr (a := -y.Num.B) (by omega), wr (a := -y.Num.C) (by omega), wr (a := -y.Num.D) (by omega)]
  rfl
theorem tmod_neg2 (a : Int) : (Int.tmod (-a) 2 == 0) = (Int.tmod a 2 == 0) := by
  rw [Int.neg_tmod, Bool.eq_iff_iff]
  simp
theorem neg_even {x : TRing} (h : rOk x = true) : rEven (rNg x) = rEven x := by
  rw [rOk_iff] at h
  unfold rEven rNg
  simp only
  rw [wr (a := -x.A + -x.C) (by omega), wr (a := -x.B + -x.D) (by omega), wr (a := x.A + x.C) (by omega), wr (a := x.B + x.D) (by omega),
    show -x.A + -x.C = -(x.A + x.C) by omega, show -x.B + -x.D = -(x.B + x.D) by omega, tmod_neg2, tmod_neg2]
theorem neg_dok {y : TDyadic} (h : dOk y = true) : dOk (dNeg y) = true := by
  have hr := (d_parts h).1
  unfold dOk at h ⊢
  unfold dNeg
  simp only [neg_ok, neg_even hr]
  exact h
theorem raise_neg {E : Int} (hE : E ≤ 60) : ∀ (k : Nat) (x : TRing) (ok : Bool) (e : Int), rOk x = true → 0 ≤ e → e ≤ 60 → ∀ {a : TRing} {ok' : Bool} {e' : Int}, whX (F_impl_raised_l1 E) k (iTup x ok e) = some (.inl (iTup a ok' e')) →
    whX (F_impl_raised_l1 E) k (iTup (rNg x) ok e) = some (.inl (iTup (rNg a) ok' e'))
  | 0, _, _, _, _, _, _, _, _, _, h => by cases h
  | k + 1, x, ok, e, hx, h0, h1, a, ok', e', h => by
    have s1 := impl_raise_step (E := E) hx h0 h1 ok
    have s2 := impl_raise_step (E := E) (show rOk (rNg x) = true by rw [neg_ok]; exact hx) h0 h1 ok
    rw [neg_root, neg_ok] at s2
    cases hb : decide (e < E) && ok with
    | true =>
      rw [hb, cond_true] at s1 s2
      have hlt : e < E := by simp at hb; exact hb.1
      cases hr : rOk (rRoot x) with
      | true =>
        simp only [hr, if_true] at s1 s2
        simp only [whX, s1, s2, Option.bind_some] at h ⊢
        exact raise_neg hE k _ _ _ hr (by omega) (by omega) h
      | false =>
        simp only [hr, Bool.false_eq_true, if_false] at s1 s2
        simp only [whX, s1, s2, Option.bind_some] at h ⊢
        have := raise_neg hE k _ _ _ rZero_ok (by omega) (by omega) h
        rwa [neg_zero] at this
    | false =>
      rw [hb, cond_false] at s1 s2
      simp only [whX, s1, s2, Option.bind_some] at h ⊢
      simp only [iTup, Option.some.injEq, Sum.inl.injEq, Prod.mk.injEq] at h ⊢
      obtain ⟨q1, q2, q3, q4, q5, q6⟩ := h
      unfold rNg
      simp only
      exact ⟨by omega, by omega, by omega, by omega, q5, q6⟩
theorem sub_eq {x y : TDyadic} (hx : dOk x = true) (hy : dOk y = true) : F_impl_SubDyadic x y = F_impl_AddDyadic x (dNeg y) := by
  obtain ⟨x1, x2, x3⟩ := d_parts hx
  obtain ⟨y1, y2, y3⟩ := d_parts hy
  have hn := neg_dok hy
  generalize hE : (if x.Exp < y.Exp then y.Exp else x.Exp) = E
  have hE60 : 0 ≤ E ∧ E ≤ 60 := by subst hE; split <;> omega
  have hxE : x.Exp ≤ E := by subst hE; split <;> omega
  have hyE : y.Exp ≤ E := by subst hE; split <;> omega
  have run : ∀ (z : TRing) (e : Int), rOk z = true → 0 ≤ e → e ≤ E → ∃ a ok e', rOk a = true ∧ whX (F_impl_raised_l1 E) fuel (iTup z true e) = some (.inl (iTup a ok e')) := fun z e hz h0 h1 => by
    rcases raise_both (f := F_spec_l2C_add_l2 E true 0 0 0) (E := E) hE60.2 (add_l2 _ _ _ _ _) fuel z e hz h0 h1 (fuel_big (by omega)) with ⟨a, a1, _, a3⟩ | ⟨_, a, e', a2, a3⟩
    · exact ⟨a, _, _, a1, a3⟩
    · exact ⟨a, _, _, a2, a3⟩
  obtain ⟨a, oa, ea, a1, a2⟩ := run x.Num x.Exp x1 x2 hxE
  obtain ⟨c, oc, ec, c1, c2⟩ := run y.Num y.Exp y1 y2 hyE
  have c3 := raise_neg hE60.2 fuel _ _ _ y1 y2 y3 c2
  have ra := raised_of a2
  have rc := raised_of c2
  have rn := raised_of (x := dNeg y) c3
  have hsub : F_impl_SubRing a c = F_impl_AddRing a (rNg c) := by
    have k1 := a1; have k2 := c1
    rw [rOk_iff] at k1 k2
    unfold F_impl_SubRing F_impl_AddRing
    have e1 : ∀ out, F_impl_ringIf out [a, c] = F_impl_ringIf out [a, rNg c] := fun out => by
      have e3 : [a, rNg c].all rOk = [a, c].all rOk := by simp [neg_ok]
      rw [ring_if _ _ (by simp), ring_if _ _ (by simp), e3]
    rw [e1]
    rfl
  unfold F_impl_SubDyadic F_impl_AddDyadic F_impl_combined
  rw [hE, show (dNeg y).Exp = y.Exp from rfl, hE]
  simp only [impl_dyadic, hx, hy, hn, Option.bind_some, gb, Bool.not_true, Bool.not_false, cond_true, Bool.or_self, cond_false, ra, rc, rn, hsub]

theorem imS {x y : TDyadic} (hx : dOk x = true) (hy : dOk y = true) : F_impl_SubDyadic x y = some (dR (DA x (dNeg y))) := by rw [sub_eq hx hy]; exact imA hx (neg_dok hy)

def mbCell (a b : List TDyadic) (i j : Nat) : Option TDyadic := forN (dotS (fun k => a.getD (3 * i + k) dZero) (fun k => b.getD (3 * k + j) dZero)) 3 0 dZero
def mbRow (a b : List TDyadic) (i : Nat) (l : List TDyadic) : Option (List TDyadic) := forN (fun j l => (mbCell a b i j).bind fun z => some (l ++ [z])) 3 0 l
def mbO (a b : List TDyadic) : Option (List TDyadic) := forN (mbRow a b) 3 0 []
theorem sp_bloch {a b : TBloch} (ha : okD a.Cells) (hb : okD b.Cells) (la : a.Cells.length = 9) (lb : b.Cells.length = 9) (c : Bool) :
    ∃ x c', F_spec_l2C_bloch (cB c) a b = some (x, cB c') ∧ SR (fun x => okD x.Cells ∧ x.Cells.length = 9) ((mbO a.Cells b.Cells).map TBloch.mk) c x c' := by
  have l3 : ∀ (i j : Nat) (Cells : List TDyadic) (bad b0 : Bool), i < 3 → j < 3 → ∃ z b', forN (F_spec_l2C_bloch_l3 a Cells i b j bad) 3 0 (sT b0 dZero) = some (sT b' z) ∧ SR (fun z => dOk z = true) (mbCell a.Cells b.Cells i j) b0 z b' := fun i j Cells bad b0 hi hj => by
    refine sr_it (enc := sT) (G := fun _ z => dOk z = true) (n := 3) (fun k b1 s hk hs => ?_) 3 0 dZero b0 (by omega) dZero_ok
    obtain ⟨z, b', h1, h2⟩ := dot_spec (X := fun k => a.Cells.getD (3 * i + k) dZero) (Y := fun k => b.Cells.getD (3 * k + j) dZero) (fun _ => getD_ok ha _) (fun _ => getD_ok hb _) k b1 s hs
    refine ⟨z, b', ?_, h2⟩
    rw [← h1]
    unfold F_spec_l2C_bloch_l3 sT
    simp only
    rw [wr (a := 3 * (i : Int)) (by omega), wr (a := 3 * (k : Int)) (by omega), wr (a := 3 * (i : Int) + k) (by omega), wr (a := 3 * (k : Int) + j) (by omega),
      gI (n := 3 * i + k) (by omega) (by omega), gI (n := 3 * k + j) (by omega) (by omega)]
    rfl
  have l2 : ∀ (i : Nat) (Cells : List TDyadic) (bad b0 : Bool) (l : List TDyadic), i < 3 → okD l → l.length = 3 * i → ∃ z b', forN (F_spec_l2C_bloch_l2 a Cells i b bad) 3 0 (b0, l) = some (b', z) ∧ SR (fun z => okD z ∧ z.length = 3 * i + 3) (mbRow a.Cells b.Cells i l) b0 z b' := fun i Cells bad b0 l hi hl hll => by
    have := sr_it (f := F_spec_l2C_bloch_l2 a Cells i b bad) (enc := fun b (l : List TDyadic) => (b, l)) (G := fun j z => okD z ∧ z.length = 3 * i + j) (st := fun j l => (mbCell a.Cells b.Cells i j).bind fun z => some (l ++ [z])) (n := 3) (fun j b1 s hj hs => ?_) 3 0 l b0 (by omega) ⟨hl, by omega⟩
    · rw [Nat.zero_add] at this; exact this
    · obtain ⟨z, b', h1, h2⟩ := l3 i j Cells bad b1 hi hj
      refine ⟨s ++ [z], b', ?_, h2.bind (SR.pure ⟨okD_snoc hs.1 h2.1, by simp; omega⟩)⟩
      unfold F_spec_l2C_bloch_l2
      simp only
      rw [show forN (F_spec_l2C_bloch_l3 a Cells i b j bad) 3 0 (b1, 0, 0, 0, 0, 0) = _ from h1]
      simp only [sT, Option.bind_some]
      rw [chk_t (by omega)]
  have l1 := sr_it (f := F_spec_l2C_bloch_l1 a b) (enc := fun b (l : List TDyadic) => (b, l)) (G := fun i z => okD z ∧ z.length = 3 * i) (st := mbRow a.Cells b.Cells) (n := 3) (fun i b1 s hi hs => by
    obtain ⟨z, b', h1, h2⟩ := l2 i s b1 b1 s hi hs.1 hs.2
    refine ⟨z, b', ?_, h2.mono (fun h => ⟨h.1, by omega⟩)⟩
    unfold F_spec_l2C_bloch_l1
    simp only
    rw [h1]; rfl) 3 0 [] c (by omega) ⟨fun _ h => (by cases h), rfl⟩
  obtain ⟨z, b', h1, h2⟩ := l1
  refine ⟨TBloch.mk z, b', ?_, h2.map TBloch.mk (fun h => ⟨h.1, h.2⟩)⟩
  unfold F_spec_l2C_bloch
  rw [show forN (F_spec_l2C_bloch_l1 a b) 3 0 ((cB c).bad, []) = _ from h1]
  rfl
def lR (o : Option (List TDyadic)) : List TDyadic × Bool := match o with | some l => (l, true) | none => ([], false)
theorem im_bloch {a b : List TDyadic} (ha : okD a) (hb : okD b) (la : a.length = 9) (lb : b.length = 9) :
    F_impl_mulBloch a b = some (lR (mbO a b)) ∧ ∀ l, mbO a b = some l → okD l ∧ l.length = 9 := by
  have l3 : ∀ (i j : Nat), i < 3 → j < 3 → forX (F_impl_mulBloch_l3 a i b j) 3 0 (iT dZero) = some (exO iT (.rt (.rt ([], false))) (mbCell a b i j)) ∧ ∀ z, mbCell a b i j = some z → dOk z = true := fun i j hi hj => by
    refine im_it (g := F_impl_mulBloch_l3 a i b j) (enc := iT) (G := fun _ z => dOk z = true) (n := 3) (fun k s hk hs => ?_) 3 0 dZero (by omega) dZero_ok
    have := dot_impl (X := fun k => a.getD (3 * i + k) dZero) (Y := fun k => b.getD (3 * k + j) dZero) (fun _ => getD_ok ha _) (fun _ => getD_ok hb _) (Ex.rt (σ := List TDyadic) (Ex.rt (σ := List TDyadic) (([] : List TDyadic), false))) k s hs
    refine ⟨?_, this.2⟩
    rw [← this.1]
    unfold F_impl_mulBloch_l3 iT
    simp only
    rw [wr (a := 3 * (i : Int)) (by omega), wr (a := 3 * (k : Int)) (by omega), wr (a := 3 * (i : Int) + k) (by omega), wr (a := 3 * (k : Int) + j) (by omega),
        gI (n := 3 * i + k) (by omega) (by omega), gI (n := 3 * k + j) (by omega) (by omega)]
    rfl
  have l2 : ∀ (i : Nat) (l : List TDyadic), i < 3 → okD l → l.length = 3 * i → forX (F_impl_mulBloch_l2 a i b) 3 0 l = some (exO id (.rt ([], false)) (mbRow a b i l)) ∧ ∀ z, mbRow a b i l = some z → okD z ∧ z.length = 3 * i + 3 := fun i l hi hl hll => by
    refine im_it (g := F_impl_mulBloch_l2 a i b) (enc := id) (G := fun j z => okD z ∧ z.length = 3 * i + j) (n := 3) (fun j s hj hs => ?_) 3 0 l (by omega) ⟨hl, by omega⟩
    obtain ⟨h1, h2⟩ := l3 i j hi hj
    unfold F_impl_mulBloch_l2
    simp only [id]
    rw [show forX (F_impl_mulBloch_l3 a i b j) 3 0 (0, 0, 0, 0, 0) = _ from h1]
    cases hc : mbCell a b i j with
    | none => exact ⟨rfl, fun z hz => by cases hz⟩
    | some z =>
      simp only [exO, iT, Option.bind_some, orR]
      rw [chk_t (by omega)]
      exact ⟨rfl, fun z' hz => by cases hz; exact ⟨okD_snoc hs.1 (h2 z hc), by simp; omega⟩⟩
  obtain ⟨h1, h2⟩ := im_it (g := F_impl_mulBloch_l1 a b) (enc := id) (G := fun i z => okD z ∧ z.length = 3 * i) (st := mbRow a b) (R := (([] : List TDyadic), false)) (n := 3) (fun i s hi hs => by
    obtain ⟨h1, h2⟩ := l2 i s hi hs.1 hs.2
    unfold F_impl_mulBloch_l1
    simp only [id]
    rw [h1]
    cases hc : mbRow a b i s with
    | none => exact ⟨rfl, fun z hz => by cases hz⟩
    | some z => exact ⟨rfl, fun z' hz => by cases hz; obtain ⟨q1, q2⟩ := h2 z hc; exact ⟨q1, by omega⟩⟩) 3 0 [] (by omega) ⟨fun _ h => (by cases h), rfl⟩
  refine ⟨?_, fun l hl => h2 l hl⟩
  unfold F_impl_mulBloch
  rw [show forX (F_impl_mulBloch_l1 a b) 3 0 [] = _ from h1]
  unfold mbO
  cases forN (mbRow a b) 3 0 [] <;> rfl

def minO (p q r s : TDyadic) : Option TDyadic := (DM p s).bind fun x => (DM q r).bind fun y => DA x (dNeg y)
theorem sr_minor {b : TBloch} (hb : okD b.Cells) (lb : b.Cells.length = 9) {j k : Nat} (hj : j < 3) (hk : k < 3) (c : Bool) :
    ∃ z c', F_spec_l2C_minor (cB c) b j k = some (z, cB c') ∧ SR (fun z => dOk z = true) (minO (b.Cells.getD (3 + j) dZero) (b.Cells.getD (3 + k) dZero) (b.Cells.getD (6 + j) dZero) (b.Cells.getD (6 + k) dZero)) c z c' := by
  obtain ⟨x, c1, h1, g1⟩ := srM (getD_ok hb (3 + j)) (getD_ok hb (6 + k)) c
  obtain ⟨y, c2, h2, g2⟩ := srM (getD_ok hb (3 + k)) (getD_ok hb (6 + j)) c1
  obtain ⟨z, c3, h3, g3⟩ := srA g1.1 (neg_dok g2.1) c2
  refine ⟨z, c3, ?_, g1.bind (g2.bind g3)⟩
  unfold F_spec_l2C_minor
  rw [wr (a := 3 + (j : Int)) (by omega), wr (a := 6 + (k : Int)) (by omega), wr (a := 3 + (k : Int)) (by omega), wr (a := 6 + (j : Int)) (by omega),
    gI (n := 3 + j) (by omega) (by omega), gI (n := 6 + k) (by omega) (by omega), gI (n := 3 + k) (by omega) (by omega), gI (n := 6 + j) (by omega) (by omega)]
  simp only [Option.bind_some, h1, h2, spec_neg (d_parts g2.1).1, h3]
theorem im_minor {p q r s : TDyadic} (hp : dOk p = true) (hq : dOk q = true) (hr : dOk r = true) (hs : dOk s = true) :
    ∃ o, F_impl_minor p q r s = some (o, (minO p q r s).isSome) ∧ dOk o = true ∧ ∀ z, minO p q r s = some z → o = z := by
  unfold F_impl_minor minO
  rw [imM hp hs, imM hq hr]
  have o1 : dOk (dR (DM p s)).1 = true := dR_ok (fun z hz => dm_ok hp hs hz)
  have o2 : dOk (dR (DM q r)).1 = true := dR_ok (fun z hz => dm_ok hq hr hz)
  simp only [Option.bind_some]
  rw [imS o1 o2]
  have o3 : dOk (dR (DA (dR (DM p s)).1 (dNeg (dR (DM q r)).1))).1 = true := dR_ok (fun z hz => da_ok o1 (neg_dok o2) hz)
  refine ⟨_, ?_, o3, ?_⟩
  · simp only [Option.bind_some]
    cases DM p s with
    | none => rfl
    | some x =>
      cases DM q r with
      | none => rfl
      | some y => simp only [dR, Option.bind_some]; cases DA x (dNeg y) <;> rfl
  · intro z hz
    cases h1 : DM p s with
    | none => rw [h1] at hz; cases hz
    | some x =>
      cases h2 : DM q r with
      | none => rw [h1, h2] at hz; cases hz
      | some y =>
        rw [h1, h2] at hz
        simp only [Option.bind_some] at hz
        simp only [dR, hz]
/-- The determinant of nine numbers. -/
def detO (l : List TDyadic) : Option TDyadic :=
  (minO (l.getD 4 dZero) (l.getD 5 dZero) (l.getD 7 dZero) (l.getD 8 dZero)).bind fun m0 => (DM (l.getD 0 dZero) m0).bind fun x0 =>
  (minO (l.getD 3 dZero) (l.getD 5 dZero) (l.getD 6 dZero) (l.getD 8 dZero)).bind fun m1 => (DM (l.getD 1 dZero) m1).bind fun x1 => (DA x0 (dNeg x1)).bind fun s1 =>
  (minO (l.getD 3 dZero) (l.getD 4 dZero) (l.getD 6 dZero) (l.getD 7 dZero)).bind fun m2 => (DM (l.getD 2 dZero) m2).bind fun x2 => DA s1 x2
theorem min_ok {p q r s z : TDyadic} (hp : dOk p = true) (hq : dOk q = true) (hr : dOk r = true) (hs : dOk s = true) (h : minO p q r s = some z) : dOk z = true := by
  obtain ⟨o, _, h2, h3⟩ := im_minor hp hq hr hs
  rw [← h3 z h]; exact h2
/-- One round of the program's determinant. -/
def detS (l : List TDyadic) (k : Nat) (s : TDyadic) : Option TDyadic :=
  (minO (l.getD (if k = 0 then 4 else 3) dZero) (l.getD (if k = 2 then 4 else 5) dZero) (l.getD (if k = 0 then 7 else 6) dZero) (l.getD (if k = 2 then 7 else 8) dZero)).bind fun m => (DM (l.getD k dZero) m).bind fun x => if k = 1 then DA s (dNeg x) else DA s x
theorem det_rest {l : List TDyadic} (ll : l.length = 9) {k : Nat} (hk : k < 3) :
    forN (F_impl_determinant_l2 k l) 3 0 [] = some [l.getD (if k = 0 then 4 else 3) dZero, l.getD (if k = 0 then 7 else 6) dZero, l.getD (if k = 2 then 4 else 5) dZero, l.getD (if k = 2 then 7 else 8) dZero] := by
  obtain ⟨x0, x1, x2, x3, x4, x5, x6, x7, x8, rfl⟩ : ∃ x0 x1 x2 x3 x4 x5 x6 x7 x8, l = [x0, x1, x2, x3, x4, x5, x6, x7, x8] := by
    match l, ll with
    | [x0, x1, x2, x3, x4, x5, x6, x7, x8], _ => exact ⟨_, _, _, _, _, _, _, _, _, rfl⟩
  have : k = 0 ∨ k = 1 ∨ k = 2 := by omega
  rcases this with rfl | rfl | rfl <;> rfl
theorem im_det {l : List TDyadic} (hl : okD l) (ll : l.length = 9) : F_impl_determinant l = some (dR (detO l)) ∧ ∀ z, detO l = some z → dOk z = true := by
  obtain ⟨h1, h2⟩ := im_it (g := F_impl_determinant_l1 l) (enc := iT) (G := fun _ z => dOk z = true) (st := detS l) (R := (dZero, false)) (n := 3) (fun k s hk hs => by
    have ok := fun n => getD_ok hl n
    obtain ⟨o, e1, e2, e3⟩ := im_minor (ok (if k = 0 then 4 else 3)) (ok (if k = 2 then 4 else 5)) (ok (if k = 0 then 7 else 6)) (ok (if k = 2 then 7 else 8))
    have hg : getI l (k : Int) = some (l.getD k dZero) := gI rfl (by omega)
    unfold F_impl_determinant_l1 iT
    simp only
    rw [det_rest ll hk]
    simp only [Option.bind_some]
    have q0 : ∀ (a b c d : TDyadic), getI [a, b, c, d] 0 = some a := fun _ _ _ _ => rfl
    have q1 : ∀ (a b c d : TDyadic), getI [a, b, c, d] 1 = some b := fun _ _ _ _ => rfl
    have q2 : ∀ (a b c d : TDyadic), getI [a, b, c, d] 2 = some c := fun _ _ _ _ => rfl
    have q3 : ∀ (a b c d : TDyadic), getI [a, b, c, d] 3 = some d := fun _ _ _ _ => rfl
    rw [q0, q1, q2, q3, hg]
    simp only [Option.bind_some, e1]
    rw [imM (ok k) e2]
    have o1 : dOk (dR (DM (l.getD k dZero) o)).1 = true := dR_ok (fun z hz => dm_ok (ok k) e2 hz)
    simp only [Option.bind_some]
    rw [show (TDyadic.mk (TRing.mk s.Num.A s.Num.B s.Num.C s.Num.D) s.Exp) = s from rfl, imS hs o1, imA hs o1]
    unfold detS
    simp only [Option.bind_some]
    cases hm : minO (l.getD (if k = 0 then 4 else 3) dZero) (l.getD (if k = 2 then 4 else 5) dZero) (l.getD (if k = 0 then 7 else 6) dZero) (l.getD (if k = 2 then 7 else 8) dZero) with
    | none =>
      refine ⟨?_, fun z hz => by cases hz⟩
      simp only [Option.isSome_none, Bool.not_false, Bool.true_or, cond_true, Option.bind_none]
      cases ((k : Int) == 1) <;> rfl
    | some m =>
      have := e3 m hm
      subst this
      simp only [Option.isSome_some, Bool.not_true, Bool.false_or, Option.bind_some]
      cases hx : DM (l.getD k dZero) o with
      | none =>
        refine ⟨?_, fun z hz => by cases hz⟩
        simp only [dR, Bool.not_false, Bool.true_or, cond_true, Option.bind_none]
        cases ((k : Int) == 1) <;> rfl
      | some x =>
        rw [hx] at o1
        simp only [dR, Bool.not_true, Bool.false_or, Option.bind_some] at o1 ⊢
        by_cases h1 : k = 1
        · have e : ((k : Int) == 1) = true := by simp [h1]
          rw [e, if_pos h1]
          simp only [cond_true]
          cases ha : DA s (dNeg x) with
          | none => exact ⟨rfl, fun z hz => by cases hz⟩
          | some z => exact ⟨rfl, fun z' hz => by cases hz; exact da_ok hs (neg_dok o1) ha⟩
        · have e : ((k : Int) == 1) = false := by simp; omega
          rw [e, if_neg h1]
          simp only [cond_false]
          cases ha : DA s x with
          | none => exact ⟨rfl, fun z hz => by cases hz⟩
          | some z => exact ⟨rfl, fun z' hz => by cases hz; exact da_ok hs o1 ha⟩) 3 0 dZero (by omega) dZero_ok
  have e : forN (detS l) 3 0 dZero = detO l := by
    have ok := fun n => getD_ok hl n
    simp only [forN, detS, detO]
    simp only [show (0 : Nat) + 1 = 1 from rfl, show (1 : Nat) + 1 = 2 from rfl, show (0 : Nat) = 0 from rfl, if_true, show ((0 : Nat) = 2) = False from by simp, show ((1 : Nat) = 0) = False from by simp, show ((1 : Nat) = 2) = False from by simp, show ((2 : Nat) = 0) = False from by simp, show ((2 : Nat) = 1) = False from by simp, show ((0 : Nat) = 1) = False from by simp, if_false]
    cases hm : minO (l.getD 4 dZero) (l.getD 5 dZero) (l.getD 7 dZero) (l.getD 8 dZero) with
    | none => rfl
    | some m0 =>
      simp only [Option.bind_some]
      cases hx : DM (l.getD 0 dZero) m0 with
      | none => rfl
      | some x0 =>
        simp only [Option.bind_some, zero_add (dm_ok (ok 0) (min_ok (ok 4) (ok 5) (ok 7) (ok 8) hm) hx)]
        cases minO (l.getD 3 dZero) (l.getD 5 dZero) (l.getD 6 dZero) (l.getD 8 dZero) with
        | none => rfl
        | some m1 =>
          simp only [Option.bind_some]
          cases DM (l.getD 1 dZero) m1 with
          | none => rfl
          | some x1 =>
            simp only [Option.bind_some]
            cases DA x0 (dNeg x1) with
            | none => rfl
            | some s1 =>
              simp only [Option.bind_some]
              cases minO (l.getD 3 dZero) (l.getD 4 dZero) (l.getD 6 dZero) (l.getD 7 dZero) with
              | none => rfl
              | some m2 =>
                simp only [Option.bind_some]
                cases DM (l.getD 2 dZero) m2 with
                | none => rfl
                | some x2 =>
                  simp only [Option.bind_some]
                  cases DA s1 x2 <;> rfl
  rw [e] at h1 h2
  refine ⟨?_, fun z hz => h2 z hz⟩
  unfold F_impl_determinant
  rw [show forX (F_impl_determinant_l1 l) 3 0 (0, 0, 0, 0, 0) = _ from h1]
  cases detO l <;> rfl

def realB (x : TDyadic) : Bool := dOk x && (x.Num.C == 0) && (x.Num.D == IntKind.i64.wrap (-x.Num.B))
def turn9 (l : List TDyadic) : List TDyadic := [l.getD 0 dZero, l.getD 3 dZero, l.getD 6 dZero, l.getD 1 dZero, l.getD 4 dZero, l.getD 7 dZero, l.getD 2 dZero, l.getD 5 dZero, l.getD 8 dZero]
def unit9 : List TDyadic := [dOne, dZero, dZero, dZero, dOne, dZero, dZero, dZero, dOne]
/-- Whether nine numbers are taken. -/
def bvO (l : List TDyadic) : Bool := decide (l.length = 9) && l.all realB && (match mbO l (turn9 l), detO l with | some p, some d => decide (p = unit9) && decide (d = dOne) | _, _ => false)
theorem nine {l : List TDyadic} (ll : l.length = 9) : ∃ x0 x1 x2 x3 x4 x5 x6 x7 x8, l = [x0, x1, x2, x3, x4, x5, x6, x7, x8] := by
  match l, ll with
  | [x0, x1, x2, x3, x4, x5, x6, x7, x8], _ => exact ⟨_, _, _, _, _, _, _, _, _, rfl⟩
theorem spec_turn {b : TBloch} (lb : b.Cells.length = 9) : F_spec_l9Turn b = some (TBloch.mk (turn9 b.Cells)) := by
  obtain ⟨l⟩ := b
  obtain ⟨x0, x1, x2, x3, x4, x5, x6, x7, x8, rfl⟩ := nine lb
  rfl
theorem impl_turn {l : List TDyadic} (ll : l.length = 9) : F_impl_transposed l = some (turn9 l) := by
  obtain ⟨x0, x1, x2, x3, x4, x5, x6, x7, x8, rfl⟩ := nine ll
  rfl
theorem turn_ok {l : List TDyadic} (h : okD l) : okD (turn9 l) := fun z hz => by
  simp only [turn9, List.mem_cons, List.not_mem_nil, or_false] at hz
  rcases hz with rfl | rfl | rfl | rfl | rfl | rfl | rfl | rfl | rfl <;> exact getD_ok h _
theorem spec_unit : F_spec_l9Unit = some (TBloch.mk unit9) := by
  unfold F_spec_l9Unit
  simp only [forN, F_spec_l9Unit_l1, l2p0, Option.bind_some]
  rfl
theorem spec_same {a b : TBloch} (ha : a.Cells.length = 9) (hb : b.Cells.length = 9) : F_spec_l9Same a b = some (decide (a.Cells = b.Cells)) := by
  unfold F_spec_l9Same
  rw [chk_t (by omega), forX_same (f := F_spec_l9Same_l1 a b) (l := a.Cells) (l' := b.Cells) (q := false) (by omega) (fun i x y hx hy => by
    unfold F_spec_l9Same_l1
    simp only [getI_nat, hx, hy, Option.bind_some, dy_eq, bs])]
  by_cases h : a.Cells = b.Cells
  · rw [if_pos h, decide_eq_true h]; rfl
  · rw [if_neg h, decide_eq_false h]; rfl
theorem real_ok {l : List TDyadic} (h : l.all realB = true) : okD l := fun z hz => by
  have := List.all_eq_true.1 h z hz
  unfold realB at this
  simp only [Bool.and_eq_true] at this
  exact this.1.1
theorem spec_det {b : TBloch} (hb : okD b.Cells) (lb : b.Cells.length = 9) (c : Bool) (k : TDyadic × Tl2C → Option Bool) :
    ∃ d c', ((getI b.Cells 0).bind fun x1 => (F_spec_l2C_minor (cB c) b 1 2).bind fun (r_4, m1) => (F_spec_l2C_mul m1 x1 r_4).bind fun (r_5, m2) => (getI b.Cells 1).bind fun x2 =>
      (F_spec_l2C_minor m2 b 0 2).bind fun (r_6, m3) => (F_spec_l2C_mul m3 x2 r_6).bind fun (r_7, m4) => (F_spec_l2Neg r_7).bind fun r_8 => (F_spec_l2C_add m4 r_5 r_8).bind fun (r_9, m5) =>
      (getI b.Cells 2).bind fun x3 => (F_spec_l2C_minor m5 b 0 1).bind fun (r_10, m6) => (F_spec_l2C_mul m6 x3 r_10).bind fun (r_11, m7) => (F_spec_l2C_add m7 r_9 r_11).bind k) = k (d, cB c') ∧
      SR (fun z => dOk z = true) (detO b.Cells) c d c' := by
  have ok := fun n => getD_ok hb n
  obtain ⟨a0, c1, e1, g1⟩ := sr_minor hb lb (j := 1) (k := 2) (by decide) (by decide) c
  obtain ⟨a1, c2, e2, g2⟩ := srM (ok 0) g1.1 c1
  obtain ⟨a2, c3, e3, g3⟩ := sr_minor hb lb (j := 0) (k := 2) (by decide) (by decide) c2
  obtain ⟨a3, c4, e4, g4⟩ := srM (ok 1) g3.1 c3
  obtain ⟨a4, c5, e5, g5⟩ := srA g2.1 (neg_dok g4.1) c4
  obtain ⟨a5, c6, e6, g6⟩ := sr_minor hb lb (j := 0) (k := 1) (by decide) (by decide) c5
  obtain ⟨a6, c7, e7, g7⟩ := srM (ok 2) g6.1 c6
  obtain ⟨a7, c8, e8, g8⟩ := srA g5.1 g7.1 c7
  refine ⟨a7, c8, ?_, ?_⟩
  · have i0 : getI b.Cells 0 = some (b.Cells.getD 0 dZero) := gI (n := 0) rfl (by omega)
    have i1 : getI b.Cells 1 = some (b.Cells.getD 1 dZero) := gI (n := 1) rfl (by omega)
    have i2 : getI b.Cells 2 = some (b.Cells.getD 2 dZero) := gI (n := 2) rfl (by omega)
    rw [i0, i1, i2]
    simp only [Option.bind_some]
    rw [show F_spec_l2C_minor (cB c) b 1 2 = _ from e1]
    simp only [Option.bind_some]
    rw [e2]
    simp only [Option.bind_some]
    rw [show F_spec_l2C_minor (cB c2) b 0 2 = _ from e3]
    simp only [Option.bind_some]
    rw [e4]
    simp only [Option.bind_some]
    rw [spec_neg (d_parts g4.1).1]
    simp only [Option.bind_some]
    rw [e5]
    simp only [Option.bind_some]
    rw [show F_spec_l2C_minor (cB c5) b 0 1 = _ from e6]
    simp only [Option.bind_some]
    rw [e7]
    simp only [Option.bind_some]
    rw [e8]
    rfl
  · unfold detO
    exact g1.bind (g2.bind (g3.bind (g4.bind (g5.bind (g6.bind (g7.bind g8))))))
theorem spec_valid (b : TBloch) : F_spec_l9Valid b = some (bvO b.Cells) := by
  unfold F_spec_l9Valid bvO
  by_cases ll : b.Cells.length = 9
  · have e9 : ((b.Cells.length : Int) != 9) = false := by simp [ll]
    rw [e9, cond_false, chk_t (by omega), decide_eq_true ll]
    rcases forX_any (f := F_spec_l9Valid_l1 b) (l := b.Cells) (p := fun x => !realB x) (q := fun _ => false) (fun i x hx => by
      unfold F_spec_l9Valid_l1
      simp only [getI_nat, hx, Option.bind_some, spec_dyadic]
      have : (((!dOk x) || (x.Num.C != 0)) || (x.Num.D != (IntKind.i64.wrap (-x.Num.B)))) = !realB x := by unfold realB; simp only [bne, Bool.not_and]
      rw [this, bs]) with ⟨h1, h2⟩ | ⟨h1, i, _, h2⟩
    · rw [h2]
      simp only [Option.bind_some, orR]
      have hreal : b.Cells.all realB = true := by
        rw [List.all_eq_true]; intro x hx
        have := List.any_eq_false.1 h1 x hx
        simpa using this
      have hb := real_ok hreal
      rw [hreal, spec_turn ll]
      simp only [Option.bind_some, Bool.and_self, Bool.true_and]
      obtain ⟨x, c1, e1, g1⟩ := sp_bloch (a := b) (b := TBloch.mk (turn9 b.Cells)) hb (turn_ok hb) ll rfl false
      rw [show F_spec_l2C_bloch (Tl2C.mk false) b (TBloch.mk (turn9 b.Cells)) = _ from e1]
      simp only [Option.bind_some]
      obtain ⟨d, c2, e2, g2⟩ := spec_det hb ll c1 (fun (r_12, m8) => bif (!m8.bad) then ((F_spec_l9Unit).bind fun r_13 =>
        (F_spec_l9Same x r_13).bind fun r_14 =>
        (gb r_14 (TDyadic.mk (TRing.mk 0 0 0 0) 0) (F_spec_l2Power 0)).bind fun r_15 =>
        some ((r_14 && (((r_12.Num.A == r_15.Num.A) && ((r_12.Num.B == r_15.Num.B) && ((r_12.Num.C == r_15.Num.C) && ((r_12.Num.D == r_15.Num.D) && true)))) && ((r_12.Exp == r_15.Exp) && true))))) else ((gb false (TDyadic.mk (TRing.mk 0 0 0 0) 0) (F_spec_l2Power 0)).bind fun r_16 =>
        some ((false && (((r_12.Num.A == r_16.Num.A) && ((r_12.Num.B == r_16.Num.B) && ((r_12.Num.C == r_16.Num.C) && ((r_12.Num.D == r_16.Num.D) && true)))) && ((r_12.Exp == r_16.Exp) && true))))))
      refine Eq.trans e2 ?_
      simp only
      rcases g1.good with ⟨p1, rfl⟩ | ⟨p1, rfl⟩
      · rcases g2.good with ⟨p2, rfl⟩ | ⟨p2, rfl⟩
        · have hx : mbO b.Cells (turn9 b.Cells) = some x.Cells := by
            obtain ⟨l, h, rfl⟩ := Option.map_eq_some_iff.1 p1; exact h
          rw [hx, p2]
          rw [show (cB false).bad = false from rfl]
          simp only [Bool.not_false, cond_true]
          rw [spec_unit]
          simp only [Option.bind_some]
          rw [spec_same g1.1.2 rfl]
          simp only [Option.bind_some, gb, l2p0]
          cases decide (x.Cells = unit9)
          · rfl
          · simp only [cond_true, Option.bind_some, dy_eq, Bool.true_and]
        · rw [p2]
          cases mbO b.Cells (turn9 b.Cells) <;> rfl
      · have := g2.bad
        subst this
        have hx : mbO b.Cells (turn9 b.Cells) = none := by simpa using p1
        rw [hx]
        rfl
    · rw [h2]
      have hreal : b.Cells.all realB = false := by
        rw [List.all_eq_false]
        obtain ⟨x, hx, hp⟩ := List.any_eq_true.1 h1
        exact ⟨x, hx, by simpa using hp⟩
      rw [hreal]
      rfl
  · have e9 : ((b.Cells.length : Int) != 9) = true := by simp; omega
    rw [e9, decide_eq_false ll]
    rfl
theorem impl_valid (b : TBloch) : F_impl_IsValidBloch b = some (bvO b.Cells) := by
  unfold F_impl_IsValidBloch bvO
  by_cases ll : b.Cells.length = 9
  · have e9 : ((b.Cells.length : Int) != 9) = false := by simp [ll]
    rw [e9, decide_eq_true ll]
    simp only [Bool.not_false, gb, cond_true, Bool.false_or, Bool.true_and]
    rw [contains_eq (p := fun x => !realB x) (by omega) (fun x => by
      unfold F_impl_IsValidBloch_1 F_impl_isReal; simp only [impl_dyadic, Option.bind_some]; rfl), any_not_all]
    simp only [Option.bind_some]
    cases hreal : b.Cells.all realB with
    | false => rfl
    | true =>
      have hb := real_ok hreal
      simp only [Bool.not_true, cond_false, Bool.true_and]
      rw [impl_turn ll]
      simp only [Option.bind_some]
      obtain ⟨i1, i2⟩ := im_bloch hb (turn_ok hb) ll (show (turn9 b.Cells).length = 9 from rfl)
      obtain ⟨d1, d2⟩ := im_det hb ll
      rw [i1, d1]
      cases hm : mbO b.Cells (turn9 b.Cells) with
      | none => rfl
      | some p =>
        cases hd : detO b.Cells with
        | none => rfl
        | some d =>
          obtain ⟨_, lp⟩ := i2 p hm
          have hw : F_impl_whole 1 = some dOne := rfl
          rw [show lR (some p) = (p, true) from rfl, show dR (some d) = (d, true) from rfl]
          simp only [Bool.not_true, Bool.or_self, Bool.not_false, cond_true, hw, Option.bind_some, Bool.false_or, dy_eq]
          by_cases h1 : d = dOne
          · rw [decide_eq_true h1]
            simp only [Bool.not_true, cond_false, Bool.and_true]
            rw [chk_t (by omega), forX_same (f := F_impl_IsValidBloch_l1 p) (l := p) (l' := unit9) (q := false) (by rw [lp]; rfl) (fun i x y hx hy => by
              have hi : i < 9 := by have := (List.getElem?_eq_some_iff.1 hx).1; omega
              have hu : ((F_impl_small ((Int.tmod (i : Int) 4) == 0)).bind fun r_8 => F_impl_whole r_8) = some y := by
                have : i = 0 ∨ i = 1 ∨ i = 2 ∨ i = 3 ∨ i = 4 ∨ i = 5 ∨ i = 6 ∨ i = 7 ∨ i = 8 := by omega
                rcases this with rfl | rfl | rfl | rfl | rfl | rfl | rfl | rfl | rfl <;> exact hy
              unfold F_impl_IsValidBloch_l1
              obtain ⟨r8, q1, q2⟩ := Option.bind_eq_some_iff.1 hu
              simp only [getI_nat, hx, q1, q2, Option.bind_some, dy_eq, bs])]
            by_cases h2 : p = unit9
            · rw [if_pos h2, decide_eq_true h2]; rfl
            · rw [if_neg h2, decide_eq_false h2]; rfl
          · rw [decide_eq_false h1]
            simp only [Bool.not_false, cond_true, Bool.and_false]
  · have e9 : ((b.Cells.length : Int) != 9) = true := by simp; omega
    rw [e9, decide_eq_false ll]
    rfl

def dHalf : TDyadic := TDyadic.mk (TRing.mk 1 0 0 0) 2
theorem dHalf_ok : dOk dHalf = true := by decide
def pauL (i : Nat) : List TDyadic := ((F_spec_l9Pauli (i : Int)).getD (TMatrix.mk 0 0 [])).Cells
theorem pau_small : ∀ i : Fin 3, F_spec_l9Pauli (i.val : Int) = some (TMatrix.mk 2 2 (pauL i.val)) ∧ getI [2, 3, 4] (i.val : Int) = some ((i.val : Int) + 2) ∧ F_impl_GateMatrix 1 (TGate.mk ((i.val : Int) + 2) 0 0) = some (TMatrix.mk 2 2 (pauL i.val), true) ∧ (pauL i.val).length = 2 * 2 ∧ (pauL i.val).all dOk = true := by decide +kernel
theorem pau {i : Nat} (h : i < 3) : F_spec_l9Pauli (i : Int) = some (TMatrix.mk 2 2 (pauL i)) ∧ getI [2, 3, 4] (i : Int) = some ((i : Int) + 2) ∧ F_impl_GateMatrix 1 (TGate.mk ((i : Int) + 2) 0 0) = some (TMatrix.mk 2 2 (pauL i), true) ∧ (pauL i).length = 2 * 2 ∧ okD (pauL i) := by
  obtain ⟨h1, h2, h3, h4, h5⟩ := pau_small ⟨i, h⟩
  exact ⟨h1, h2, h3, h4, fun z hz => List.all_eq_true.1 h5 z hz⟩
def blO (l l' : List TDyadic) (i j : Nat) : Option TDyadic :=
  (mmO (pauL i) l 2 2 2).bind fun l1 => (mmO l1 (pauL j) 2 2 2).bind fun l2 => (mmO l2 l' 2 2 2).bind fun l3 => (DA (l3.getD 0 dZero) (l3.getD 3 dZero)).bind fun t => DM t dHalf
theorem bl_spec {l l' : List TDyadic} (ol : okD l) (ll : l.length = 2 * 2) (ol' : okD l') (ll' : l'.length = 2 * 2) (ha : F_spec_l3Adj (TMatrix.mk 2 2 l) = some (TMatrix.mk 2 2 l')) {i j : Nat} (hi : i < 3) (hj : j < 3) (Cells : List TDyadic) (bad b1 : Bool) (s : List TDyadic) (hs : s.length ≤ 9) :
    ∃ z b', F_spec_l9Bloch_l2 i (TMatrix.mk 2 2 l) Cells bad j (b1, s) = some (b', s ++ [z]) ∧ SR (fun z => dOk z = true) (blO l l' i j) b1 z b' := by
  obtain ⟨p1, _, _, p4, p5⟩ := pau hi
  obtain ⟨q1, _, _, q4, q5⟩ := pau hj
  obtain ⟨l1, c1, e1, g1⟩ := sp_times (R := 2) (K := 2) (C := 2) p5 ol p4 ll (by decide) (by decide) (by decide) b1
  obtain ⟨l2, c2, e2, g2⟩ := sp_times (R := 2) (K := 2) (C := 2) g1.1.1 q5 g1.1.2 q4 (by decide) (by decide) (by decide) c1
  obtain ⟨l3, c3, e3, g3⟩ := sp_times (R := 2) (K := 2) (C := 2) g2.1.1 ol' g2.1.2 ll' (by decide) (by decide) (by decide) c2
  obtain ⟨t, c4, e4, g4⟩ := srA (getD_ok g3.1.1 0) (getD_ok g3.1.1 3) c3
  obtain ⟨z, c5, e5, g5⟩ := srM g4.1 dHalf_ok c4
  refine ⟨z, c5, ?_, g1.bind (g2.bind (g3.bind (g4.bind g5)))⟩
  have hl3 := g3.1.2
  unfold F_spec_l9Bloch_l2
  simp only
  rw [p1]
  simp only [Option.bind_some]
  rw [show F_spec_l2C_times (Tl2C.mk b1) (TMatrix.mk 2 2 (pauL i)) (TMatrix.mk 2 2 l) = some (TMatrix.mk 2 2 l1, cB c1) from e1]
  simp only [Option.bind_some]
  rw [q1]
  simp only [Option.bind_some]
  rw [show F_spec_l2C_times (cB c1) (TMatrix.mk 2 2 l1) (TMatrix.mk 2 2 (pauL j)) = some (TMatrix.mk 2 2 l2, cB c2) from e2]
  simp only [Option.bind_some]
  rw [ha]
  simp only [Option.bind_some]
  rw [show F_spec_l2C_times (cB c2) (TMatrix.mk 2 2 l2) (TMatrix.mk 2 2 l') = some (TMatrix.mk 2 2 l3, cB c3) from e3]
  simp only [Option.bind_some]
  rw [gI (l := l3) (x := 0) (n := 0) rfl (by omega), gI (l := l3) (x := 3) (n := 3) rfl (by omega)]
  simp only [Option.bind_some]
  rw [e4]
  simp only [Option.bind_some]
  rw [show F_spec_l2C_mul (cB c4) t (TDyadic.mk (TRing.mk 1 0 0 0) 2) = some (z, cB c5) from e5]
  simp only [Option.bind_some]
  rw [chk_t (by omega)]
  rfl
def bgO (l l' : List TDyadic) : Option (List TDyadic) := gridO (blO l l') 3 3
theorem bg_spec {l l' : List TDyadic} (ol : okD l) (ll : l.length = 2 * 2) (ol' : okD l') (ll' : l'.length = 2 * 2) (ha : F_spec_l3Adj (TMatrix.mk 2 2 l) = some (TMatrix.mk 2 2 l')) :
    F_spec_l9Bloch (TMatrix.mk 2 2 l) = some (match bgO l l' with | some x => (TBloch.mk x, true) | none => (TBloch.mk [], false)) := by
  have l2 : ∀ (i : Nat) (Cells : List TDyadic) (bad b0 : Bool) (s : List TDyadic), i < 3 → s.length = i * 3 → ∃ z b', forN (F_spec_l9Bloch_l2 i (TMatrix.mk 2 2 l) Cells bad) 3 0 (b0, s) = some (b', z) ∧ SR (fun z => z.length = i * 3 + 3) (forN (fun j s => (blO l l' i j).bind fun z => some (s ++ [z])) 3 0 s) b0 z b' := fun i Cells bad b0 s hi hs => by
    have := sr_it (f := F_spec_l9Bloch_l2 i (TMatrix.mk 2 2 l) Cells bad) (enc := fun b (l : List TDyadic) => (b, l)) (G := fun j (z : List TDyadic) => z.length = i * 3 + j) (st := fun j s => (blO l l' i j).bind fun z => some (s ++ [z])) (n := 3) (fun j b1 s hj hs => ?_) 3 0 s b0 (by omega) (by omega)
    · rw [Nat.zero_add] at this; exact this
    · obtain ⟨z, b', h1, h2⟩ := bl_spec ol ll ol' ll' ha hi hj Cells bad b1 s (by omega)
      exact ⟨s ++ [z], b', h1, h2.bind (SR.pure (by simp; omega))⟩
  obtain ⟨z, b', h1, h2⟩ := sr_it (f := F_spec_l9Bloch_l1 (TMatrix.mk 2 2 l)) (enc := fun b (l : List TDyadic) => (b, l)) (G := fun i (z : List TDyadic) => z.length = i * 3) (st := fun i s => forN (fun j s => (blO l l' i j).bind fun z => some (s ++ [z])) 3 0 s) (n := 3) (fun i b1 s hi hs => by
    obtain ⟨z, b', h1, h2⟩ := l2 i s b1 b1 s hi hs
    refine ⟨z, b', ?_, h2.mono (fun h => by omega)⟩
    unfold F_spec_l9Bloch_l1
    simp only
    rw [h1]; rfl) 3 0 [] false (by omega) rfl
  unfold F_spec_l9Bloch
  rw [show forN (F_spec_l9Bloch_l1 (TMatrix.mk 2 2 l)) 3 0 (false, []) = some (b', z) from h1]
  simp only [Option.bind_some]
  rcases h2.good with ⟨h3, rfl⟩ | ⟨h3, rfl⟩
  · rw [show bgO l l' = some z from h3]; rfl
  · rw [show bgO l l' = none from h3]; rfl
def nR (x : TRing) : Int := x.A * x.A + x.B * x.B + x.C * x.C + x.D * x.D
theorem nR_root (x : TRing) : nR (rRoot x) = 2 * nR x := by
  unfold nR rRoot; simp only; grind
theorem nR_it : ∀ (k : Nat) (x : TRing), nR (rIt k x) = 2 ^ k * nR x
  | 0, x => by show nR x = _; simp
  | k + 1, x => by
    show nR (rIt k (rRoot x)) = _
    rw [nR_it k, nR_root, Int.pow_succ]; grind
theorem nR_nn (x : TRing) : 0 ≤ nR x := by
  have a := sq_nonneg x.A
  have b := sq_nonneg x.B
  have c := sq_nonneg x.C
  have d := sq_nonneg x.D
  unfold nR; omega
theorem nR_plus (x y : TRing) : nR (rPlus x y) ≤ 2 * (nR x + nR y) := by
  have a := sq_nonneg (x.A - y.A)
  have b := sq_nonneg (x.B - y.B)
  have c := sq_nonneg (x.C - y.C)
  have d := sq_nonneg (x.D - y.D)
  unfold nR rPlus; simp only; grind
theorem dot4 (a b c d e f g h : Int) : (a * e + b * f + c * g + d * h) * (a * e + b * f + c * g + d * h) ≤ (a * a + b * b + c * c + d * d) * (e * e + f * f + g * g + h * h) := by
  have h1 := sq_nonneg (a * f - b * e)
  have h2 := sq_nonneg (a * g - c * e)
  have h3 := sq_nonneg (a * h - d * e)
  have h4 := sq_nonneg (b * g - c * f)
  have h5 := sq_nonneg (b * h - d * f)
  have h6 := sq_nonneg (c * h - d * g)
  have e1 : (a * a + b * b + c * c + d * d) * (e * e + f * f + g * g + h * h) - (a * e + b * f + c * g + d * h) * (a * e + b * f + c * g + d * h) = (a * f - b * e) * (a * f - b * e) + (a * g - c * e) * (a * g - c * e) + (a * h - d * e) * (a * h - d * e) + (b * g - c * f) * (b * g - c * f) + (b * h - d * f) * (b * h - d * f) + (c * h - d * g) * (c * h - d * g) := by grind
  omega
theorem nR_mul (x y : TRing) : nR (eMul x y) ≤ 4 * (nR x * nR y) := by
  have h1 := dot4 x.A x.B x.C x.D y.A (-y.D) (-y.C) (-y.B)
  have h2 := dot4 x.A x.B x.C x.D y.B y.A (-y.D) (-y.C)
  have h3 := dot4 x.A x.B x.C x.D y.C y.B y.A (-y.D)
  have h4 := dot4 x.A x.B x.C x.D y.D y.C y.B y.A
  have k1 : x.A * y.A - x.B * y.D - x.C * y.C - x.D * y.B = x.A * y.A + x.B * -y.D + x.C * -y.C + x.D * -y.B := by grind
  have k2 : x.A * y.B + x.B * y.A - x.C * y.D - x.D * y.C = x.A * y.B + x.B * y.A + x.C * -y.D + x.D * -y.C := by grind
  have k3 : x.A * y.C + x.B * y.B + x.C * y.A - x.D * y.D = x.A * y.C + x.B * y.B + x.C * y.A + x.D * -y.D := by grind
  have n1 : (x.A * x.A + x.B * x.B + x.C * x.C + x.D * x.D) * (y.A * y.A + -y.D * -y.D + -y.C * -y.C + -y.B * -y.B) = nR x * nR y := by unfold nR; grind
  have n2 : (x.A * x.A + x.B * x.B + x.C * x.C + x.D * x.D) * (y.B * y.B + y.A * y.A + -y.D * -y.D + -y.C * -y.C) = nR x * nR y := by unfold nR; grind
  have n3 : (x.A * x.A + x.B * x.B + x.C * x.C + x.D * x.D) * (y.C * y.C + y.B * y.B + y.A * y.A + -y.D * -y.D) = nR x * nR y := by unfold nR; grind
  have n4 : (x.A * x.A + x.B * x.B + x.C * x.C + x.D * x.D) * (y.D * y.D + y.C * y.C + y.B * y.B + y.A * y.A) = nR x * nR y := by unfold nR; grind
  rw [n1] at h1; rw [n2] at h2; rw [n3] at h3; rw [n4] at h4
  rw [← k1] at h1; rw [← k2] at h2; rw [← k3] at h3
  unfold eMul
  show _ * _ + _ * _ + _ * _ + _ * _ ≤ _
  simp only
  omega
theorem nR_ok {x : TRing} (h : nR x < 1000000000000000000) : rOk x = true := by
  have a := sq_nonneg x.A
  have b := sq_nonneg x.B
  have c := sq_nonneg x.C
  have d := sq_nonneg x.D
  unfold nR at h
  have key : ∀ t : Int, t * t < 1000000000000000000 → -1000000000 ≤ t ∧ t ≤ 1000000000 := fun t ht => sq_le (N := t * t) (M := 1000000000) (by decide) (by omega) (by omega)
  rw [rOk_iff]
  exact ⟨⟨key _ (by omega), key _ (by omega)⟩, ⟨key _ (by omega), key _ (by omega)⟩⟩
/-- A number of exponent e at most, whose value's measure is K at most. -/
def Bd (e : Nat) (K : Int) (x : TDyadic) : Prop := dOk x = true ∧ x.Exp ≤ (e : Int) ∧ nR (vOf x) ≤ K * 2 ^ 60
theorem p2_le {m n : Nat} (h : m ≤ n) : (2 : Int) ^ m ≤ 2 ^ n := by
  have := Nat.pow_le_pow_right (show 0 < 2 by decide) h
  exact_mod_cast this
theorem p2_pos (m : Nat) : (0 : Int) < 2 ^ m := by
  have := Nat.pow_pos (n := m) (show 0 < 2 by decide)
  exact_mod_cast this
theorem bd_it {e : Nat} {K : Int} {x : TDyadic} (h : Bd e K x) (he : e ≤ 60) (hK : 0 ≤ K) {j : Nat} (hj : (j : Int) + x.Exp ≤ (e : Int)) : nR (rIt j x.Num) ≤ K * 2 ^ e := by
  obtain ⟨h1, h2, h3⟩ := h
  obtain ⟨x1, x2, x3⟩ := d_parts h1
  unfold vOf at h3
  rw [nR_it] at h3 ⊢
  generalize nR x.Num = n at h3 ⊢
  generalize x.Exp = E at *
  obtain ⟨f, rfl⟩ : ∃ f : Nat, E = f := ⟨E.toNat, by omega⟩
  rw [show (60 - (f : Int)).toNat = 60 - f by omega] at h3
  have p1 : (2 : Int) ^ 60 = 2 ^ (60 - f) * 2 ^ f := by rw [← Int.pow_add]; congr 1; omega
  rw [p1] at h3
  have hn : n ≤ K * 2 ^ f := Int.le_of_mul_le_mul_left (a := 2 ^ (60 - f)) (by rw [← Int.mul_assoc, Int.mul_comm _ K, Int.mul_assoc]; exact h3) (p2_pos _)
  have s1 : (2 : Int) ^ j * n ≤ 2 ^ j * (K * 2 ^ f) := Int.mul_le_mul_of_nonneg_left hn (Int.le_of_lt (p2_pos j))
  have s2 : (2 : Int) ^ j * (K * 2 ^ f) = K * 2 ^ (j + f) := by rw [Int.pow_add]; grind
  have s3 : K * 2 ^ (j + f) ≤ K * 2 ^ e := Int.mul_le_mul_of_nonneg_left (p2_le (by omega)) hK
  omega
theorem DM_bd {e e' : Nat} {K K' : Int} {x y : TDyadic} (hx : Bd e K x) (hy : Bd e' K' y) (he : e + e' ≤ 60) (hK : 0 ≤ K) (hK' : 0 ≤ K') (hc : 4 * ((K * 2 ^ e) * (K' * 2 ^ e')) < 1000000000000000000) : ∃ z, DM x y = some z ∧ Bd (e + e') (4 * (K * K')) z := by
  have bx := bd_it hx (by omega) hK (j := 0) (by have := hx.2.1; omega)
  have b_y := bd_it hy (by omega) hK' (j := 0) (by have := hy.2.1; omega)
  have bx : nR x.Num ≤ K * 2 ^ e := bx
  have b_y : nR y.Num ≤ K' * 2 ^ e' := b_y
  obtain ⟨x1, x2, x3⟩ := d_parts hx.1
  obtain ⟨y1, y2, y3⟩ := d_parts hy.1
  have ex := hx.2.1
  have ey := hy.2.1
  have hmul := mul_exact x1 y1
  have hr : rOk (rMul x.Num y.Num) = true := by
    rw [hmul]
    refine nR_ok ?_
    have m1 := nR_mul x.Num y.Num
    have m2 : nR x.Num * nR y.Num ≤ (K * 2 ^ e) * (K' * 2 ^ e') := Int.mul_le_mul bx b_y (nR_nn _) (Int.mul_nonneg hK (Int.le_of_lt (p2_pos _)))
    omega
  have hw : IntKind.i64.wrap (x.Exp + y.Exp) = x.Exp + y.Exp := wr (by omega)
  obtain ⟨z, hz1, hz2, hz3⟩ := low_both hr (e := x.Exp + y.Exp) ⟨by omega, by omega⟩
  have hD : DM x y = some z := by
    unfold DM F_impl_MulDyadic
    rw [impl_rmul x1 y1, hr]
    simp only [Option.bind_some, impl_dyadic, hx.1, hy.1, gb, Bool.not_true, Bool.not_false, cond_true, Bool.false_or, hw, if_true, cond_false, hz2, Bool.or_self]
  refine ⟨z, hD, hz3, ?_, ?_⟩
  · have := (low_val hr (e := x.Exp + y.Exp) ⟨by omega, by omega⟩ hz2).2.1
    omega
  · have hv := congrArg nR (v_mul hx.1 hy.1 hD)
    rw [nR_it] at hv
    have m1 := nR_mul (vOf x) (vOf y)
    have m2 : nR (vOf x) * nR (vOf y) ≤ (K * 2 ^ 60) * (K' * 2 ^ 60) := Int.mul_le_mul hx.2.2 hy.2.2 (nR_nn _) (Int.mul_nonneg hK (by decide))
    have m3 : 4 * ((K * 2 ^ 60) * (K' * 2 ^ 60)) = 2 ^ 60 * (4 * (K * K') * 2 ^ 60) := by grind
    refine Int.le_of_mul_le_mul_left (a := 2 ^ 60) ?_ (by decide)
    rw [hv]; omega
theorem DA_bd {e : Nat} {K K' : Int} {x y : TDyadic} (hx : Bd e K x) (hy : Bd e K' y) (he : e ≤ 60) (hK : 0 ≤ K) (hK' : 0 ≤ K') (hc : 2 * (K * 2 ^ e + K' * 2 ^ e) < 1000000000000000000) : ∃ z, DA x y = some z ∧ Bd e (2 * (K + K')) z := by
  obtain ⟨x1, x2, x3⟩ := d_parts hx.1
  obtain ⟨y1, y2, y3⟩ := d_parts hy.1
  have ex := hx.2.1
  have ey := hy.2.1
  have k1 : 0 ≤ K * 2 ^ e := Int.mul_nonneg hK (Int.le_of_lt (p2_pos _))
  have k2 : 0 ≤ K' * 2 ^ e := Int.mul_nonneg hK' (Int.le_of_lt (p2_pos _))
  generalize hE : (if x.Exp < y.Exp then y.Exp else x.Exp) = E
  have b1 : x.Exp ≤ E := by rw [← hE]; split <;> omega
  have b2 : y.Exp ≤ E := by rw [← hE]; split <;> omega
  have b3 : E ≤ (e : Int) := by rw [← hE]; split <;> omega
  have rx : ∀ j : Nat, j ≤ (E - x.Exp).toNat → nR (rIt j x.Num) ≤ K * 2 ^ e := fun j hj => bd_it hx he hK (by omega)
  have ry : ∀ j : Nat, j ≤ (E - y.Exp).toNat → nR (rIt j y.Num) ≤ K' * 2 ^ e := fun j hj => bd_it hy he hK' (by omega)
  obtain ⟨a, oa, a1, a2, a3, a4⟩ := raised_some hx.1 b1 (by omega)
  obtain ⟨c, oc, c1, c2, c3, c4⟩ := raised_some hy.1 b2 (by omega)
  obtain rfl : oa = true := a4 fun j hj => nR_ok (by have := rx j hj; omega)
  obtain rfl : oc = true := c4 fun j hj => nR_ok (by have := ry j hj; omega)
  have hcb := comb_add hx.1 hy.1 hE a1 c1 a2 c2
  have hadd : rAdd a c = rPlus a c := by
    rw [rOk_iff] at a2 c2
    show TRing.mk (IntKind.i64.wrap (a.A + c.A)) (IntKind.i64.wrap (a.B + c.B)) (IntKind.i64.wrap (a.C + c.C)) (IntKind.i64.wrap (a.D + c.D)) = _
    rw [wr (a := a.A + c.A) (by omega), wr (a := a.B + c.B) (by omega), wr (a := a.C + c.C) (by omega), wr (a := a.D + c.D) (by omega)]
    rfl
  have hr : rOk (rAdd a c) = true := by
    rw [hadd, a3 rfl, c3 rfl]
    refine nR_ok ?_
    have m1 := nR_plus (rIt (E - x.Exp).toNat x.Num) (rIt (E - y.Exp).toNat y.Num)
    have m2 := rx _ (Nat.le_refl _)
    have m3 := ry _ (Nat.le_refl _)
    omega
  obtain ⟨z, hz1, hz2, hz3⟩ := low_both hr (e := E) ⟨by omega, by omega⟩
  have hD : DA x y = some z := by
    unfold DA
    rw [hcb, hr]
    simp only [Bool.and_self, cond_true, hz2, Option.bind_some, if_true]
  refine ⟨z, hD, hz3, ?_, ?_⟩
  · have := (low_val hr (e := E) ⟨by omega, by omega⟩ hz2).2.1
    omega
  · rw [da_val hx.1 hy.1 hD]
    have m1 := nR_plus (vOf x) (vOf y)
    have m2 := hx.2.2
    have m3 := hy.2.2
    have m4 : 2 * (K + K') * 2 ^ 60 = 2 * (K * 2 ^ 60 + K' * 2 ^ 60) := by grind
    omega

theorem Bd.mono {e f : Nat} {K L : Int} {x : TDyadic} (h : Bd e K x) (he : e ≤ f) (hK : K ≤ L) : Bd f L x := by
  obtain ⟨h1, h2, h3⟩ := h
  exact ⟨h1, by omega, by omega⟩
theorem bd_zero (e : Nat) {K : Int} (hK : 0 ≤ K) : Bd e K dZero := by
  refine ⟨dZero_ok, by show (0 : Int) ≤ e; omega, ?_⟩
  rw [show vOf dZero = rZero from v_dz']
  show (0 : Int) ≤ _
  omega
/-- A list whose numbers are all small. -/
def BL (e : Nat) (K : Int) (l : List TDyadic) : Prop := ∀ p, Bd e K (l.getD p dZero)
theorem bl_ok {e : Nat} {K : Int} {l : List TDyadic} (h : BL e K l) : okD l := fun z hz => by
  obtain ⟨p, hp, rfl⟩ := List.mem_iff_getElem.1 hz
  have := (h p).1
  rwa [List.getD_eq_getElem?_getD, List.getElem?_eq_getElem hp] at this
theorem dot_bd {e e' : Nat} {K K' : Int} {X Y : Nat → TDyadic} (hX : ∀ k, Bd e K (X k)) (hY : ∀ k, Bd e' K' (Y k)) (he : e + e' ≤ 60) (hK : 0 ≤ K) (hK' : 0 ≤ K') (hc : 24 * (K * K') * 2 ^ (e + e') < 1000000000000000000) : ∃ z, forN (dotS X Y) 2 0 dZero = some z ∧ Bd (e + e') (24 * (K * K')) z := by
  have hKK : 0 ≤ K * K' := Int.mul_nonneg hK hK'
  have c0 : (K * 2 ^ e) * (K' * 2 ^ e') = (K * K') * 2 ^ (e + e') := by rw [Int.pow_add]; grind
  have c1 : 0 ≤ (K * K') * 2 ^ (e + e') := Int.mul_nonneg hKK (Int.le_of_lt (p2_pos _))
  have c2 : 24 * (K * K') * 2 ^ (e + e') = 24 * ((K * K') * 2 ^ (e + e')) := by grind
  have c3 : 4 * (K * K') * 2 ^ (e + e') = 4 * ((K * K') * 2 ^ (e + e')) := by grind
  obtain ⟨p0, h0, b0⟩ := DM_bd (hX 0) (hY 0) he hK hK' (by omega)
  obtain ⟨p1, h1, b1⟩ := DM_bd (hX 1) (hY 1) he hK hK' (by omega)
  obtain ⟨s0, g0, d0⟩ := DA_bd (bd_zero (e + e') (K := 0) (by decide)) b0 he (by decide) (by omega) (by omega)
  have c4 : 2 * (0 + 4 * (K * K')) * 2 ^ (e + e') = 8 * ((K * K') * 2 ^ (e + e')) := by grind
  obtain ⟨s1, g1, d1⟩ := DA_bd d0 b1 he (by omega) (by omega) (by omega)
  refine ⟨s1, ?_, d1.mono (Nat.le_refl _) (by omega)⟩
  simp only [forN, dotS, h0, h1, Option.bind_some, g0, g1]
theorem mm_bd {e e' : Nat} {K K' : Int} {a b : List TDyadic} (ha : BL e K a) (hb : BL e' K' b) (he : e + e' ≤ 60) (hK : 0 ≤ K) (hK' : 0 ≤ K') (hc : 24 * (K * K') * 2 ^ (e + e') < 1000000000000000000) : ∃ l, mmO a b 2 2 2 = some l ∧ BL (e + e') (24 * (K * K')) l ∧ l.length = 4 := by
  have hKK : 0 ≤ K * K' := Int.mul_nonneg hK hK'
  have hcell : ∀ i j : Nat, ∃ z, mmCell a b 2 2 i j = some z ∧ Bd (e + e') (24 * (K * K')) z := fun i j => dot_bd (fun k => ha _) (fun k => hb _) he hK hK' hc
  obtain ⟨z0, h0, b0⟩ := hcell 0 0
  obtain ⟨z1, h1, b1⟩ := hcell 0 1
  obtain ⟨z2, h2, b2⟩ := hcell 1 0
  obtain ⟨z3, h3, b3⟩ := hcell 1 1
  refine ⟨[z0, z1, z2, z3], ?_, fun p => ?_, rfl⟩
  · simp [mmO, gridO, forN, h0, h1, h2, h3]
  · match p with
    | 0 => exact b0
    | 1 => exact b1
    | 2 => exact b2
    | 3 => exact b3
    | p + 4 => exact bd_zero _ (by omega)
/-- The columns weigh one. -/
def Uni (l : List TDyadic) : Prop := ∀ j, j < 2 → gram l 2 2 j j = rIt 120 rOne'
theorem one_120 : (rIt 120 rOne').A = 2 ^ 60 := by decide +kernel
theorem aSq_A (x : TRing) : (aSq x x).A = nR x := by
  unfold aSq eMul rConj nR; simp only; grind
theorem uni_n {l : List TDyadic} (h : Uni l) {i j : Nat} (hi : i < 2) (hj : j < 2) : nR (vM l 2 i j) ≤ 1 * 2 ^ 60 := by
  have h1 := congrArg TRing.A (h j hj)
  rw [one_120] at h1
  have h2 : (gram l 2 2 j j).A = 0 + (aSq (vM l 2 0 j) (vM l 2 0 j)).A + (aSq (vM l 2 1 j) (vM l 2 1 j)).A := rfl
  rw [h2, aSq_A, aSq_A] at h1
  have n0 := nR_nn (vM l 2 0 j)
  have n1 := nR_nn (vM l 2 1 j)
  match i, hi with
  | 0, _ => omega
  | 1, _ => omega
theorem uni_bl {l : List TDyadic} {e : Nat} {K : Int} (h : Uni l) (hb : BL e K l) (hl : l.length = 4) : BL e 1 l := fun p => by
  refine ⟨(hb p).1, (hb p).2.1, ?_⟩
  have n00 : nR (vOf (l.getD 0 dZero)) ≤ 1 * 2 ^ 60 := uni_n h (i := 0) (j := 0) (by decide) (by decide)
  have n01 : nR (vOf (l.getD 1 dZero)) ≤ 1 * 2 ^ 60 := uni_n h (i := 0) (j := 1) (by decide) (by decide)
  have n10 : nR (vOf (l.getD 2 dZero)) ≤ 1 * 2 ^ 60 := uni_n h (i := 1) (j := 0) (by decide) (by decide)
  have n11 : nR (vOf (l.getD 3 dZero)) ≤ 1 * 2 ^ 60 := uni_n h (i := 1) (j := 1) (by decide) (by decide)
  match p with
  | 0 => exact n00
  | 1 => exact n01
  | 2 => exact n10
  | 3 => exact n11
  | p + 4 =>
    rw [List.getD_eq_getElem?_getD, List.getElem?_eq_none (by omega)]
    exact (bd_zero e (K := 1) (by decide)).2.2
theorem pc_small : ∀ k : Fin 8, (phD (k.val : Int)).Exp ≤ 1 ∧ nR (vOf (phD (k.val : Int))) ≤ 1 * 2 ^ 60 := by decide +kernel
theorem pc_bd (o : Option Nat) : Bd 1 1 (pc o) := by
  cases o with
  | none => exact bd_zero 1 (by decide)
  | some k => exact ⟨pc_ok _, (pc_small ⟨k % 8, by omega⟩).1, (pc_small ⟨k % 8, by omega⟩).2⟩
theorem h_small : Bd 1 1 (TDyadic.mk (TRing.mk (-1) 0 0 0) 1) ∧ Bd 1 1 (TDyadic.mk rOne' 1) := by unfold Bd; decide +kernel
theorem gate_bd {g : TGate} (hg : gOk (1 : Nat) g = true) : BL 1 1 (gL 1 g) ∧ (gL 1 g).length = 4 := by
  have hn : 1 ≤ 1 ∧ 1 ≤ 5 := by decide
  obtain ⟨_, _, og, lg⟩ := gate_both hn hg
  have hcell : ∀ i j, i < 2 → j < 2 → Bd 1 1 ((gL 1 g).getD (i * 2 + j) dZero) := fun i j hi hj => by
    have hget : (gL 1 g).getD (i * 2 + j) dZero = gcD 1 g i j := gL_get (n := 1) hn hg hi hj
    rw [hget]
    by_cases h1 : g.Kind = 1
    · obtain ⟨a, ha⟩ : ∃ a : Nat, g.A = a := by
        rcases gOk_cases hg with h | h | h
        · exact ⟨g.A.toNat, by omega⟩
        · omega
        · omega
      rw [sg_one (n := 1) (k := 1) hn hg (by rw [h1]; rfl) ⟨by decide, by decide⟩ ha hi hj]
      split
      · rw [show enD ((1 : Nat) : Int) (bi i (1 - 1 - a)) (bi j (1 - 1 - a)) = _ from en_h ⟨_, bi_lt _ _⟩ ⟨_, bi_lt _ _⟩]
        split
        · exact h_small.1
        · exact h_small.2
      · exact bd_zero 1 (by decide)
    · have h2 := sg_cell (n := 1) hn hg h1 hi hj
      have h3 := (gc_both (n := 1) hn hg hi hj).1
      rw [h2] at h3
      rw [← Option.some.inj h3]
      exact pc_bd _
  have lg : (gL 1 g).length = 4 := lg
  refine ⟨fun p => ?_, lg⟩
  match p with
  | 0 => exact hcell 0 0 (by decide) (by decide)
  | 1 => exact hcell 0 1 (by decide) (by decide)
  | 2 => exact hcell 1 0 (by decide) (by decide)
  | 3 => exact hcell 1 1 (by decide) (by decide)
  | p + 4 =>
    rw [List.getD_eq_getElem?_getD, List.getElem?_eq_none (by omega)]
    exact bd_zero 1 (by decide)
theorem run_bd : ∀ (gs : List TGate), gs.all (gOk (1 : Nat)) = true → ∀ (k : Nat) (l : List TDyadic), gs.length + k ≤ 10 → BL k 1 l → l.length = 4 → Uni l → ∃ l', runO 1 2 gs l = some l' ∧ BL 10 1 l' ∧ l'.length = 4
  | [], _, k, l, hk, hb, hl, _ => ⟨l, rfl, fun p => (hb p).mono (by simpa using hk) (Int.le_refl _), hl⟩
  | g :: t, hg, k, l, hk, hb, hl, hu => by
    simp only [List.all_cons, Bool.and_eq_true] at hg
    simp only [List.length_cons] at hk
    obtain ⟨g1, g2⟩ := gate_bd hg.1
    have hp : (2 : Int) ^ (1 + k) ≤ 2 ^ 11 := p2_le (by omega)
    obtain ⟨x, x1, x2, x3⟩ := mm_bd g1 hb (by omega) (by decide) (by decide) (by omega)
    have hux : Uni x := fun j hj => by
      have := gram_step (n := 1) (E := 2) (by decide) hg.1 (bl_ok hb) x1 (j := j) (m := j) hj hj
      exact this.trans (hu j hj)
    have hxb : BL (k + 1) 1 x := fun p => (uni_bl hux x2 x3 p).mono (by omega) (Int.le_refl _)
    obtain ⟨l', r1, r2⟩ := run_bd t hg.2 (k + 1) x (by omega) hxb x3 hux
    refine ⟨l', ?_, r2⟩
    rw [run_cons, show mmO (gL 1 g) l (2 ^ 1) (2 ^ 1) 2 = _ from x1]
    exact r1
theorem unit_bd : ∀ p : Fin 4, Bd 0 1 ((unitL 2).getD p.val dZero) := by unfold Bd; decide +kernel
theorem unit_bl : BL 0 1 (unitL 2) := fun p => by
  by_cases h : p < 4
  · exact unit_bd ⟨p, h⟩
  · rw [List.getD_eq_getElem?_getD, List.getElem?_eq_none (by rw [unit_len]; omega)]
    exact bd_zero 0 (by decide)
theorem unit_uni : Uni (unitL 2) := fun j hj => by
  match j, hj with
  | 0, _ => decide +kernel
  | 1, _ => decide +kernel
/-- The operator of ten gates on one qubit is in bounds. -/
theorem ten_bd {gs : List TGate} (hg : gs.all (gOk (1 : Nat)) = true) (h : gs.length ≤ 10) : ∃ l, runO 1 2 gs (unitL 2) = some l ∧ BL 10 1 l ∧ l.length = 4 := run_bd gs hg 0 (unitL 2) (by omega) unit_bl rfl unit_uni
theorem adj_bd {l l' : List TDyadic} {e : Nat} {K : Int} (hK : 0 ≤ K) (hb : BL e K l) (h : adO l 2 2 = some l') : BL e K l' ∧ l'.length = 4 := by
  obtain ⟨h1, h2⟩ := adj_get h
  have hc : ∀ x : TDyadic, Bd e K x → Bd e K (dConj x) := fun x hx => by
    refine ⟨conj_ok hx.1, hx.2.1, ?_⟩
    rw [v_conj]
    have : nR (rConj (vOf x)) = nR (vOf x) := by unfold nR rConj; simp only; grind
    rw [this]; exact hx.2.2
  have h3 : ∀ i j, i < 2 → j < 2 → Bd e K (l'.getD (i * 2 + j) dZero) := fun i j hi hj => by rw [h2 i j hi hj]; exact hc _ (hb _)
  refine ⟨fun p => ?_, h1⟩
  match p with
  | 0 => exact h3 0 0 (by decide) (by decide)
  | 1 => exact h3 0 1 (by decide) (by decide)
  | 2 => exact h3 1 0 (by decide) (by decide)
  | 3 => exact h3 1 1 (by decide) (by decide)
  | p + 4 =>
    rw [List.getD_eq_getElem?_getD, List.getElem?_eq_none (by omega)]
    exact bd_zero e hK

theorem pau_bds : ∀ (i : Fin 3) (p : Fin 4), Bd 0 1 ((pauL i.val).getD p.val dZero) := by unfold Bd; decide +kernel
theorem pau_bl {i : Nat} (h : i < 3) : BL 0 1 (pauL i) := fun p => by
  by_cases hp : p < 4
  · exact pau_bds ⟨i, h⟩ ⟨p, hp⟩
  · rw [List.getD_eq_getElem?_getD, List.getElem?_eq_none (by rw [(pau h).2.2.2.1]; omega)]
    exact bd_zero 0 (by decide)
theorem half_bd : Bd 2 1 dHalf := by unfold Bd; decide +kernel
theorem bl_bd {l l' : List TDyadic} (hl : BL 10 1 l) (hl' : BL 10 1 l') {i j : Nat} (hi : i < 3) (hj : j < 3) : ∃ z, blO l l' i j = some z := by
  obtain ⟨x1, a1, b1, _⟩ := mm_bd (pau_bl hi) hl (by decide) (by decide) (by decide) (by decide)
  obtain ⟨x2, a2, b2, _⟩ := mm_bd b1 (pau_bl hj) (by decide) (by decide) (by decide) (by decide)
  obtain ⟨x3, a3, b3, _⟩ := mm_bd b2 hl' (by decide) (by decide) (by decide) (by decide)
  obtain ⟨t, a4, b4⟩ := DA_bd (b3 0) (b3 3) (by decide) (by decide) (by decide) (by decide)
  obtain ⟨z, a5, b5⟩ := DM_bd b4 half_bd (by decide) (by decide) (by decide) (by decide)
  refine ⟨z, ?_⟩
  unfold blO
  rw [a1, Option.bind_some, a2, Option.bind_some, a3, Option.bind_some, a4, Option.bind_some, a5]
theorem bg_bd {l l' : List TDyadic} (hl : BL 10 1 l) (hl' : BL 10 1 l') : ∃ x, bgO l l' = some x ∧ x.length = 9 := by
  obtain ⟨z00, h00⟩ := bl_bd hl hl' (i := 0) (j := 0) (by decide) (by decide)
  obtain ⟨z01, h01⟩ := bl_bd hl hl' (i := 0) (j := 1) (by decide) (by decide)
  obtain ⟨z02, h02⟩ := bl_bd hl hl' (i := 0) (j := 2) (by decide) (by decide)
  obtain ⟨z10, h10⟩ := bl_bd hl hl' (i := 1) (j := 0) (by decide) (by decide)
  obtain ⟨z11, h11⟩ := bl_bd hl hl' (i := 1) (j := 1) (by decide) (by decide)
  obtain ⟨z12, h12⟩ := bl_bd hl hl' (i := 1) (j := 2) (by decide) (by decide)
  obtain ⟨z20, h20⟩ := bl_bd hl hl' (i := 2) (j := 0) (by decide) (by decide)
  obtain ⟨z21, h21⟩ := bl_bd hl hl' (i := 2) (j := 1) (by decide) (by decide)
  obtain ⟨z22, h22⟩ := bl_bd hl hl' (i := 2) (j := 2) (by decide) (by decide)
  exact ⟨[z00, z01, z02, z10, z11, z12, z20, z21, z22], by simp [bgO, gridO, forN, h00, h01, h02, h10, h11, h12, h20, h21, h22], rfl⟩

def dI (n : Int) : TDyadic := TDyadic.mk (TRing.mk n 0 0 0) 0
def wordsL : List (List UInt8) := [[], [72], [83], [72, 83], [83, 72], [83, 83], [72, 83, 72], [72, 83, 83], [83, 72, 83], [83, 83, 72], [83, 83, 83], [72, 83, 72, 83], [72, 83, 83, 72], [72, 83, 83, 83], [83, 72, 83, 83], [83, 83, 72, 83], [72, 83, 72, 83, 83], [72, 83, 83, 72, 83], [83, 72, 83, 83, 72], [83, 72, 83, 83, 83], [83, 83, 72, 83, 83], [72, 83, 72, 83, 83, 72], [72, 83, 72, 83, 83, 83], [72, 83, 83, 72, 83, 83]]
def listL : List (List TDyadic) := [[dI 1, dI 0, dI 0, dI 0, dI 1, dI 0, dI 0, dI 0, dI 1], [dI 0, dI 0, dI 1, dI 0, dI (-1), dI 0, dI 1, dI 0, dI 0], [dI 0, dI (-1), dI 0, dI 1, dI 0, dI 0, dI 0, dI 0, dI 1], [dI 0, dI 1, dI 0, dI 0, dI 0, dI 1, dI 1, dI 0, dI 0], [dI 0, dI 0, dI 1, dI (-1), dI 0, dI 0, dI 0, dI (-1), dI 0], [dI (-1), dI 0, dI 0, dI 0, dI (-1), dI 0, dI 0, dI 0, dI 1], [dI 1, dI 0, dI 0, dI 0, dI 0, dI (-1), dI 0, dI 1, dI 0], [dI 0, dI 0, dI (-1), dI 0, dI 1, dI 0, dI 1, dI 0, dI 0], [dI 1, dI 0, dI 0, dI 0, dI 0, dI 1, dI 0, dI (-1), dI 0], [dI 0, dI 0, dI 1, dI 0, dI 1, dI 0, dI (-1), dI 0, dI 0], [dI 0, dI 1, dI 0, dI (-1), dI 0, dI 0, dI 0, dI 0, dI 1], [dI 0, dI 0, dI 1, dI 1, dI 0, dI 0, dI 0, dI 1, dI 0], [dI 1, dI 0, dI 0, dI 0, dI (-1), dI 0, dI 0, dI 0, dI (-1)], [dI 0, dI (-1), dI 0, dI 0, dI 0, dI (-1), dI 1, dI 0, dI 0], [dI 0, dI 0, dI (-1), dI 1, dI 0, dI 0, dI 0, dI (-1), dI 0], [dI 0, dI (-1), dI 0, dI 0, dI 0, dI 1, dI (-1), dI 0, dI 0], [dI (-1), dI 0, dI 0, dI 0, dI 0, dI 1, dI 0, dI 1, dI 0], [dI 0, dI 1, dI 0, dI 1, dI 0, dI 0, dI 0, dI 0, dI (-1)], [dI 0, dI (-1), dI 0, dI (-1), dI 0, dI 0, dI 0, dI 0, dI (-1)], [dI (-1), dI 0, dI 0, dI 0, dI 0, dI (-1), dI 0, dI (-1), dI 0], [dI 0, dI 0, dI (-1), dI 0, dI (-1), dI 0, dI (-1), dI 0, dI 0], [dI 0, dI 1, dI 0, dI 0, dI 0, dI (-1), dI (-1), dI 0, dI 0], [dI 0, dI 0, dI (-1), dI (-1), dI 0, dI 0, dI 0, dI 1, dI 0], [dI (-1), dI 0, dI 0, dI 0, dI 1, dI 0, dI 0, dI 0, dI (-1)]]
def hB : TBloch := TBloch.mk [dI 0, dI 0, dI 1, dI 0, dI (-1), dI 0, dI 1, dI 0, dI 0]
def sB : TBloch := TBloch.mk [dI 0, dI (-1), dI 0, dI 1, dI 0, dI 0, dI 0, dI 0, dI 1]
theorem gate_h : F_impl_blochGate 1 = some hB := by decide +kernel
theorem gate_s : F_impl_blochGate 5 = some sB := by decide +kernel
theorem whX_nx {σ ρ : Type} {f : σ → Option (Ex σ ρ)} {k : Nat} {s s' : σ} (h : f s = some (.nx s')) : whX f (k + 1) s = whX f k s' := by simp only [whX, h, Option.bind_some]
theorem whX_br {σ ρ : Type} {f : σ → Option (Ex σ ρ)} {k : Nat} {s s' : σ} (h : f s = some (.br s')) : whX f (k + 1) s = some (.inl s') := by simp only [whX, h, Option.bind_some]
theorem cl_of {k k' : Int} {W W' : List (List UInt8)} {L L' : List (List TDyadic)} (h : forN (F_impl_cliffordList_l3 hB sB k) 2 0 (W, L) = some (W', L')) (hk : decide (k < (W.length : Int)) = true) (hw : IntKind.i64.wrap (k + 1) = k') : F_impl_cliffordList_l2 hB sB (W, L, k) = some (.nx (W', L', k')) := by
  unfold F_impl_cliffordList_l2
  simp only [hk, cond_true, h, Option.bind_some, hw]
theorem cf_0 : forN (F_impl_cliffordList_l3 hB sB 0) 2 0 (wordsL.take 1, listL.take 1) = some (wordsL.take 3, listL.take 3) := by decide +kernel
theorem cl_0 : F_impl_cliffordList_l2 hB sB (wordsL.take 1, listL.take 1, 0) = some (.nx (wordsL.take 3, listL.take 3, 1)) := cl_of cf_0 rfl rfl
theorem cf_1 : forN (F_impl_cliffordList_l3 hB sB 1) 2 0 (wordsL.take 3, listL.take 3) = some (wordsL.take 4, listL.take 4) := by decide +kernel
theorem cl_1 : F_impl_cliffordList_l2 hB sB (wordsL.take 3, listL.take 3, 1) = some (.nx (wordsL.take 4, listL.take 4, 2)) := cl_of cf_1 rfl rfl
theorem cf_2 : forN (F_impl_cliffordList_l3 hB sB 2) 2 0 (wordsL.take 4, listL.take 4) = some (wordsL.take 6, listL.take 6) := by decide +kernel
theorem cl_2 : F_impl_cliffordList_l2 hB sB (wordsL.take 4, listL.take 4, 2) = some (.nx (wordsL.take 6, listL.take 6, 3)) := cl_of cf_2 rfl rfl
theorem cf_3 : forN (F_impl_cliffordList_l3 hB sB 3) 2 0 (wordsL.take 6, listL.take 6) = some (wordsL.take 8, listL.take 8) := by decide +kernel
theorem cl_3 : F_impl_cliffordList_l2 hB sB (wordsL.take 6, listL.take 6, 3) = some (.nx (wordsL.take 8, listL.take 8, 4)) := cl_of cf_3 rfl rfl
theorem cf_4 : forN (F_impl_cliffordList_l3 hB sB 4) 2 0 (wordsL.take 8, listL.take 8) = some (wordsL.take 9, listL.take 9) := by decide +kernel
theorem cl_4 : F_impl_cliffordList_l2 hB sB (wordsL.take 8, listL.take 8, 4) = some (.nx (wordsL.take 9, listL.take 9, 5)) := cl_of cf_4 rfl rfl
theorem cf_5 : forN (F_impl_cliffordList_l3 hB sB 5) 2 0 (wordsL.take 9, listL.take 9) = some (wordsL.take 11, listL.take 11) := by decide +kernel
theorem cl_5 : F_impl_cliffordList_l2 hB sB (wordsL.take 9, listL.take 9, 5) = some (.nx (wordsL.take 11, listL.take 11, 6)) := cl_of cf_5 rfl rfl
theorem cf_6 : forN (F_impl_cliffordList_l3 hB sB 6) 2 0 (wordsL.take 11, listL.take 11) = some (wordsL.take 12, listL.take 12) := by decide +kernel
theorem cl_6 : F_impl_cliffordList_l2 hB sB (wordsL.take 11, listL.take 11, 6) = some (.nx (wordsL.take 12, listL.take 12, 7)) := cl_of cf_6 rfl rfl
theorem cf_7 : forN (F_impl_cliffordList_l3 hB sB 7) 2 0 (wordsL.take 12, listL.take 12) = some (wordsL.take 14, listL.take 14) := by decide +kernel
theorem cl_7 : F_impl_cliffordList_l2 hB sB (wordsL.take 12, listL.take 12, 7) = some (.nx (wordsL.take 14, listL.take 14, 8)) := cl_of cf_7 rfl rfl
theorem cf_8 : forN (F_impl_cliffordList_l3 hB sB 8) 2 0 (wordsL.take 14, listL.take 14) = some (wordsL.take 15, listL.take 15) := by decide +kernel
theorem cl_8 : F_impl_cliffordList_l2 hB sB (wordsL.take 14, listL.take 14, 8) = some (.nx (wordsL.take 15, listL.take 15, 9)) := cl_of cf_8 rfl rfl
theorem cf_9 : forN (F_impl_cliffordList_l3 hB sB 9) 2 0 (wordsL.take 15, listL.take 15) = some (wordsL.take 16, listL.take 16) := by decide +kernel
theorem cl_9 : F_impl_cliffordList_l2 hB sB (wordsL.take 15, listL.take 15, 9) = some (.nx (wordsL.take 16, listL.take 16, 10)) := cl_of cf_9 rfl rfl
theorem cf_10 : forN (F_impl_cliffordList_l3 hB sB 10) 2 0 (wordsL.take 16, listL.take 16) = some (wordsL.take 16, listL.take 16) := by decide +kernel
theorem cl_10 : F_impl_cliffordList_l2 hB sB (wordsL.take 16, listL.take 16, 10) = some (.nx (wordsL.take 16, listL.take 16, 11)) := cl_of cf_10 rfl rfl
theorem cf_11 : forN (F_impl_cliffordList_l3 hB sB 11) 2 0 (wordsL.take 16, listL.take 16) = some (wordsL.take 17, listL.take 17) := by decide +kernel
theorem cl_11 : F_impl_cliffordList_l2 hB sB (wordsL.take 16, listL.take 16, 11) = some (.nx (wordsL.take 17, listL.take 17, 12)) := cl_of cf_11 rfl rfl
theorem cf_12 : forN (F_impl_cliffordList_l3 hB sB 12) 2 0 (wordsL.take 17, listL.take 17) = some (wordsL.take 18, listL.take 18) := by decide +kernel
theorem cl_12 : F_impl_cliffordList_l2 hB sB (wordsL.take 17, listL.take 17, 12) = some (.nx (wordsL.take 18, listL.take 18, 13)) := cl_of cf_12 rfl rfl
theorem cf_13 : forN (F_impl_cliffordList_l3 hB sB 13) 2 0 (wordsL.take 18, listL.take 18) = some (wordsL.take 18, listL.take 18) := by decide +kernel
theorem cl_13 : F_impl_cliffordList_l2 hB sB (wordsL.take 18, listL.take 18, 13) = some (.nx (wordsL.take 18, listL.take 18, 14)) := cl_of cf_13 rfl rfl
theorem cf_14 : forN (F_impl_cliffordList_l3 hB sB 14) 2 0 (wordsL.take 18, listL.take 18) = some (wordsL.take 20, listL.take 20) := by decide +kernel
theorem cl_14 : F_impl_cliffordList_l2 hB sB (wordsL.take 18, listL.take 18, 14) = some (.nx (wordsL.take 20, listL.take 20, 15)) := cl_of cf_14 rfl rfl
theorem cf_15 : forN (F_impl_cliffordList_l3 hB sB 15) 2 0 (wordsL.take 20, listL.take 20) = some (wordsL.take 21, listL.take 21) := by decide +kernel
theorem cl_15 : F_impl_cliffordList_l2 hB sB (wordsL.take 20, listL.take 20, 15) = some (.nx (wordsL.take 21, listL.take 21, 16)) := cl_of cf_15 rfl rfl
theorem cf_16 : forN (F_impl_cliffordList_l3 hB sB 16) 2 0 (wordsL.take 21, listL.take 21) = some (wordsL.take 23, listL.take 23) := by decide +kernel
theorem cl_16 : F_impl_cliffordList_l2 hB sB (wordsL.take 21, listL.take 21, 16) = some (.nx (wordsL.take 23, listL.take 23, 17)) := cl_of cf_16 rfl rfl
theorem cf_17 : forN (F_impl_cliffordList_l3 hB sB 17) 2 0 (wordsL.take 23, listL.take 23) = some (wordsL.take 24, listL.take 24) := by decide +kernel
theorem cl_17 : F_impl_cliffordList_l2 hB sB (wordsL.take 23, listL.take 23, 17) = some (.nx (wordsL.take 24, listL.take 24, 18)) := cl_of cf_17 rfl rfl
theorem cf_18 : forN (F_impl_cliffordList_l3 hB sB 18) 2 0 (wordsL.take 24, listL.take 24) = some (wordsL.take 24, listL.take 24) := by decide +kernel
theorem cl_18 : F_impl_cliffordList_l2 hB sB (wordsL.take 24, listL.take 24, 18) = some (.nx (wordsL.take 24, listL.take 24, 19)) := cl_of cf_18 rfl rfl
theorem cf_19 : forN (F_impl_cliffordList_l3 hB sB 19) 2 0 (wordsL.take 24, listL.take 24) = some (wordsL.take 24, listL.take 24) := by decide +kernel
theorem cl_19 : F_impl_cliffordList_l2 hB sB (wordsL.take 24, listL.take 24, 19) = some (.nx (wordsL.take 24, listL.take 24, 20)) := cl_of cf_19 rfl rfl
theorem cf_20 : forN (F_impl_cliffordList_l3 hB sB 20) 2 0 (wordsL.take 24, listL.take 24) = some (wordsL.take 24, listL.take 24) := by decide +kernel
theorem cl_20 : F_impl_cliffordList_l2 hB sB (wordsL.take 24, listL.take 24, 20) = some (.nx (wordsL.take 24, listL.take 24, 21)) := cl_of cf_20 rfl rfl
theorem cf_21 : forN (F_impl_cliffordList_l3 hB sB 21) 2 0 (wordsL.take 24, listL.take 24) = some (wordsL.take 24, listL.take 24) := by decide +kernel
theorem cl_21 : F_impl_cliffordList_l2 hB sB (wordsL.take 24, listL.take 24, 21) = some (.nx (wordsL.take 24, listL.take 24, 22)) := cl_of cf_21 rfl rfl
theorem cf_22 : forN (F_impl_cliffordList_l3 hB sB 22) 2 0 (wordsL.take 24, listL.take 24) = some (wordsL.take 24, listL.take 24) := by decide +kernel
theorem cl_22 : F_impl_cliffordList_l2 hB sB (wordsL.take 24, listL.take 24, 22) = some (.nx (wordsL.take 24, listL.take 24, 23)) := cl_of cf_22 rfl rfl
theorem cf_23 : forN (F_impl_cliffordList_l3 hB sB 23) 2 0 (wordsL.take 24, listL.take 24) = some (wordsL.take 24, listL.take 24) := by decide +kernel
theorem cl_23 : F_impl_cliffordList_l2 hB sB (wordsL.take 24, listL.take 24, 23) = some (.nx (wordsL.take 24, listL.take 24, 24)) := cl_of cf_23 rfl rfl
theorem cl_24 : F_impl_cliffordList_l2 hB sB (wordsL.take 24, listL.take 24, 24) = some (.br (wordsL, listL, 24)) := rfl
theorem cl_loop (n : Nat) : whX (F_impl_cliffordList_l2 hB sB) (n + 25) (wordsL.take 1, listL.take 1, 0) = some (.inl (wordsL, listL, 24)) := by
  rw [whX_nx cl_0, whX_nx cl_1, whX_nx cl_2, whX_nx cl_3, whX_nx cl_4, whX_nx cl_5, whX_nx cl_6, whX_nx cl_7, whX_nx cl_8, whX_nx cl_9, whX_nx cl_10, whX_nx cl_11, whX_nx cl_12, whX_nx cl_13, whX_nx cl_14, whX_nx cl_15, whX_nx cl_16, whX_nx cl_17, whX_nx cl_18, whX_nx cl_19, whX_nx cl_20, whX_nx cl_21, whX_nx cl_22, whX_nx cl_23]
  exact whX_br cl_24
theorem cl_one : forN F_impl_cliffordList_l1 9 0 [] = some [dI 1, dI 0, dI 0, dI 0, dI 1, dI 0, dI 0, dI 0, dI 1] := by decide +kernel
theorem list_impl : F_impl_cliffordList = some (wordsL, listL) := by
  unfold F_impl_cliffordList
  rw [cl_one, gate_h, gate_s]
  simp only [Option.bind_some]
  have := cl_loop (fuel - 25)
  rw [show fuel - 25 + 25 = fuel from rfl] at this
  rw [show (([[]] : List (List UInt8)), ([[dI 1, dI 0, dI 0, dI 0, dI 1, dI 0, dI 0, dI 0, dI 1]] : List (List TDyadic)), (0 : Int)) = (wordsL.take 1, listL.take 1, 0) from rfl, this]
  rfl

theorem forN_st {σ : Type} {f : Nat → σ → Option σ} {k i : Nat} {s s' : σ} (h : f i s = some s') : forN f (k + 1) i s = forN f k (i + 1) s' := by simp only [forN, h, Option.bind_some]
def seenL (n : Nat) : List TBloch := (listL.take n).map TBloch.mk
theorem ll_of {W W' Nx lv : List (List UInt8)} {S S' : List TBloch} {n : Nat} (h : forN (F_spec_l9Words_l2 lv) n 0 (W, S, []) = some (W', S', Nx)) (hn : lv.length = n) (hw : decide ((W.length : Int) < 24) = true) (hl : lv.length ≤ 9223372036854775807) : F_spec_l9Words_l1 (W, S, lv) = some (.nx (W', S', Nx)) := by
  unfold F_spec_l9Words_l1
  simp only [hw, cond_true]
  rw [chk_t hl, hn, h]
  rfl
def lev_0 : List (List UInt8) := ([[]] : List (List UInt8))
def lev_1 : List (List UInt8) := ([[72], [83]] : List (List UInt8))
theorem ls_0_0 : F_spec_l9Words_l2 lev_0 0 (wordsL.take 0, seenL 0, []) = some (wordsL.take 1, seenL 1, (lev_1.take 2)) := by decide +kernel
theorem lf_0 : forN (F_spec_l9Words_l2 lev_0) 1 0 (wordsL.take 0, seenL 0, []) = some (wordsL.take 1, seenL 1, (lev_1.take 2)) := (forN_st ls_0_0).trans (rfl)
theorem ll_0 : F_spec_l9Words_l1 (wordsL.take 0, seenL 0, lev_0) = some (.nx (wordsL.take 1, seenL 1, lev_1)) := ll_of lf_0 rfl rfl (by decide)
def lev_2 : List (List UInt8) := ([[72, 72], [72, 83], [83, 72], [83, 83]] : List (List UInt8))
theorem ls_1_0 : F_spec_l9Words_l2 lev_1 0 (wordsL.take 1, seenL 1, []) = some (wordsL.take 2, seenL 2, (lev_2.take 2)) := by decide +kernel
theorem ls_1_1 : F_spec_l9Words_l2 lev_1 1 (wordsL.take 2, seenL 2, (lev_2.take 2)) = some (wordsL.take 3, seenL 3, (lev_2.take 4)) := by decide +kernel
theorem lf_1 : forN (F_spec_l9Words_l2 lev_1) 2 0 (wordsL.take 1, seenL 1, []) = some (wordsL.take 3, seenL 3, (lev_2.take 4)) := (forN_st ls_1_0).trans ((forN_st ls_1_1).trans (rfl))
theorem ll_1 : F_spec_l9Words_l1 (wordsL.take 1, seenL 1, lev_1) = some (.nx (wordsL.take 3, seenL 3, lev_2)) := ll_of lf_1 rfl rfl (by decide)
def lev_3 : List (List UInt8) := ([[72, 83, 72], [72, 83, 83], [83, 72, 72], [83, 72, 83], [83, 83, 72], [83, 83, 83]] : List (List UInt8))
theorem ls_2_0 : F_spec_l9Words_l2 lev_2 0 (wordsL.take 3, seenL 3, []) = some (wordsL.take 3, seenL 3, []) := by decide +kernel
theorem ls_2_1 : F_spec_l9Words_l2 lev_2 1 (wordsL.take 3, seenL 3, []) = some (wordsL.take 4, seenL 4, (lev_3.take 2)) := by decide +kernel
theorem ls_2_2 : F_spec_l9Words_l2 lev_2 2 (wordsL.take 4, seenL 4, (lev_3.take 2)) = some (wordsL.take 5, seenL 5, (lev_3.take 4)) := by decide +kernel
theorem ls_2_3 : F_spec_l9Words_l2 lev_2 3 (wordsL.take 5, seenL 5, (lev_3.take 4)) = some (wordsL.take 6, seenL 6, (lev_3.take 6)) := by decide +kernel
theorem lf_2 : forN (F_spec_l9Words_l2 lev_2) 4 0 (wordsL.take 3, seenL 3, []) = some (wordsL.take 6, seenL 6, (lev_3.take 6)) := (forN_st ls_2_0).trans ((forN_st ls_2_1).trans ((forN_st ls_2_2).trans ((forN_st ls_2_3).trans (rfl))))
theorem ll_2 : F_spec_l9Words_l1 (wordsL.take 3, seenL 3, lev_2) = some (.nx (wordsL.take 6, seenL 6, lev_3)) := ll_of lf_2 rfl rfl (by decide)
def lev_4 : List (List UInt8) := ([[72, 83, 72, 72], [72, 83, 72, 83], [72, 83, 83, 72], [72, 83, 83, 83], [83, 72, 83, 72], [83, 72, 83, 83], [83, 83, 72, 72], [83, 83, 72, 83], [83, 83, 83, 72], [83, 83, 83, 83]] : List (List UInt8))
theorem ls_3_0 : F_spec_l9Words_l2 lev_3 0 (wordsL.take 6, seenL 6, []) = some (wordsL.take 7, seenL 7, (lev_4.take 2)) := by decide +kernel
theorem ls_3_1 : F_spec_l9Words_l2 lev_3 1 (wordsL.take 7, seenL 7, (lev_4.take 2)) = some (wordsL.take 8, seenL 8, (lev_4.take 4)) := by decide +kernel
theorem ls_3_2 : F_spec_l9Words_l2 lev_3 2 (wordsL.take 8, seenL 8, (lev_4.take 4)) = some (wordsL.take 8, seenL 8, (lev_4.take 4)) := by decide +kernel
theorem ls_3_3 : F_spec_l9Words_l2 lev_3 3 (wordsL.take 8, seenL 8, (lev_4.take 4)) = some (wordsL.take 9, seenL 9, (lev_4.take 6)) := by decide +kernel
theorem ls_3_4 : F_spec_l9Words_l2 lev_3 4 (wordsL.take 9, seenL 9, (lev_4.take 6)) = some (wordsL.take 10, seenL 10, (lev_4.take 8)) := by decide +kernel
theorem ls_3_5 : F_spec_l9Words_l2 lev_3 5 (wordsL.take 10, seenL 10, (lev_4.take 8)) = some (wordsL.take 11, seenL 11, (lev_4.take 10)) := by decide +kernel
theorem lf_3 : forN (F_spec_l9Words_l2 lev_3) 6 0 (wordsL.take 6, seenL 6, []) = some (wordsL.take 11, seenL 11, (lev_4.take 10)) := (forN_st ls_3_0).trans ((forN_st ls_3_1).trans ((forN_st ls_3_2).trans ((forN_st ls_3_3).trans ((forN_st ls_3_4).trans ((forN_st ls_3_5).trans (rfl))))))
theorem ll_3 : F_spec_l9Words_l1 (wordsL.take 6, seenL 6, lev_3) = some (.nx (wordsL.take 11, seenL 11, lev_4)) := ll_of lf_3 rfl rfl (by decide)
def lev_5 : List (List UInt8) := ([[72, 83, 72, 83, 72], [72, 83, 72, 83, 83], [72, 83, 83, 72, 72], [72, 83, 83, 72, 83], [72, 83, 83, 83, 72], [72, 83, 83, 83, 83], [83, 72, 83, 83, 72], [83, 72, 83, 83, 83], [83, 83, 72, 83, 72], [83, 83, 72, 83, 83]] : List (List UInt8))
theorem ls_4_0 : F_spec_l9Words_l2 lev_4 0 (wordsL.take 11, seenL 11, []) = some (wordsL.take 11, seenL 11, []) := by decide +kernel
theorem ls_4_1 : F_spec_l9Words_l2 lev_4 1 (wordsL.take 11, seenL 11, []) = some (wordsL.take 12, seenL 12, (lev_5.take 2)) := by decide +kernel
theorem ls_4_2 : F_spec_l9Words_l2 lev_4 2 (wordsL.take 12, seenL 12, (lev_5.take 2)) = some (wordsL.take 13, seenL 13, (lev_5.take 4)) := by decide +kernel
theorem ls_4_3 : F_spec_l9Words_l2 lev_4 3 (wordsL.take 13, seenL 13, (lev_5.take 4)) = some (wordsL.take 14, seenL 14, (lev_5.take 6)) := by decide +kernel
theorem ls_4_4 : F_spec_l9Words_l2 lev_4 4 (wordsL.take 14, seenL 14, (lev_5.take 6)) = some (wordsL.take 14, seenL 14, (lev_5.take 6)) := by decide +kernel
theorem ls_4_5 : F_spec_l9Words_l2 lev_4 5 (wordsL.take 14, seenL 14, (lev_5.take 6)) = some (wordsL.take 15, seenL 15, (lev_5.take 8)) := by decide +kernel
theorem ls_4_6 : F_spec_l9Words_l2 lev_4 6 (wordsL.take 15, seenL 15, (lev_5.take 8)) = some (wordsL.take 15, seenL 15, (lev_5.take 8)) := by decide +kernel
theorem ls_4_7 : F_spec_l9Words_l2 lev_4 7 (wordsL.take 15, seenL 15, (lev_5.take 8)) = some (wordsL.take 16, seenL 16, (lev_5.take 10)) := by decide +kernel
theorem ls_4_8 : F_spec_l9Words_l2 lev_4 8 (wordsL.take 16, seenL 16, (lev_5.take 10)) = some (wordsL.take 16, seenL 16, (lev_5.take 10)) := by decide +kernel
theorem ls_4_9 : F_spec_l9Words_l2 lev_4 9 (wordsL.take 16, seenL 16, (lev_5.take 10)) = some (wordsL.take 16, seenL 16, (lev_5.take 10)) := by decide +kernel
theorem lf_4 : forN (F_spec_l9Words_l2 lev_4) 10 0 (wordsL.take 11, seenL 11, []) = some (wordsL.take 16, seenL 16, (lev_5.take 10)) := (forN_st ls_4_0).trans ((forN_st ls_4_1).trans ((forN_st ls_4_2).trans ((forN_st ls_4_3).trans ((forN_st ls_4_4).trans ((forN_st ls_4_5).trans ((forN_st ls_4_6).trans ((forN_st ls_4_7).trans ((forN_st ls_4_8).trans ((forN_st ls_4_9).trans (rfl))))))))))
theorem ll_4 : F_spec_l9Words_l1 (wordsL.take 11, seenL 11, lev_4) = some (.nx (wordsL.take 16, seenL 16, lev_5)) := ll_of lf_4 rfl rfl (by decide)
def lev_6 : List (List UInt8) := ([[72, 83, 72, 83, 83, 72], [72, 83, 72, 83, 83, 83], [72, 83, 83, 72, 83, 72], [72, 83, 83, 72, 83, 83], [83, 72, 83, 83, 72, 72], [83, 72, 83, 83, 72, 83], [83, 72, 83, 83, 83, 72], [83, 72, 83, 83, 83, 83], [83, 83, 72, 83, 83, 72], [83, 83, 72, 83, 83, 83]] : List (List UInt8))
theorem ls_5_0 : F_spec_l9Words_l2 lev_5 0 (wordsL.take 16, seenL 16, []) = some (wordsL.take 16, seenL 16, []) := by decide +kernel
theorem ls_5_1 : F_spec_l9Words_l2 lev_5 1 (wordsL.take 16, seenL 16, []) = some (wordsL.take 17, seenL 17, (lev_6.take 2)) := by decide +kernel
theorem ls_5_2 : F_spec_l9Words_l2 lev_5 2 (wordsL.take 17, seenL 17, (lev_6.take 2)) = some (wordsL.take 17, seenL 17, (lev_6.take 2)) := by decide +kernel
theorem ls_5_3 : F_spec_l9Words_l2 lev_5 3 (wordsL.take 17, seenL 17, (lev_6.take 2)) = some (wordsL.take 18, seenL 18, (lev_6.take 4)) := by decide +kernel
theorem ls_5_4 : F_spec_l9Words_l2 lev_5 4 (wordsL.take 18, seenL 18, (lev_6.take 4)) = some (wordsL.take 18, seenL 18, (lev_6.take 4)) := by decide +kernel
theorem ls_5_5 : F_spec_l9Words_l2 lev_5 5 (wordsL.take 18, seenL 18, (lev_6.take 4)) = some (wordsL.take 18, seenL 18, (lev_6.take 4)) := by decide +kernel
theorem ls_5_6 : F_spec_l9Words_l2 lev_5 6 (wordsL.take 18, seenL 18, (lev_6.take 4)) = some (wordsL.take 19, seenL 19, (lev_6.take 6)) := by decide +kernel
theorem ls_5_7 : F_spec_l9Words_l2 lev_5 7 (wordsL.take 19, seenL 19, (lev_6.take 6)) = some (wordsL.take 20, seenL 20, (lev_6.take 8)) := by decide +kernel
theorem ls_5_8 : F_spec_l9Words_l2 lev_5 8 (wordsL.take 20, seenL 20, (lev_6.take 8)) = some (wordsL.take 20, seenL 20, (lev_6.take 8)) := by decide +kernel
theorem ls_5_9 : F_spec_l9Words_l2 lev_5 9 (wordsL.take 20, seenL 20, (lev_6.take 8)) = some (wordsL.take 21, seenL 21, (lev_6.take 10)) := by decide +kernel
theorem lf_5 : forN (F_spec_l9Words_l2 lev_5) 10 0 (wordsL.take 16, seenL 16, []) = some (wordsL.take 21, seenL 21, (lev_6.take 10)) := (forN_st ls_5_0).trans ((forN_st ls_5_1).trans ((forN_st ls_5_2).trans ((forN_st ls_5_3).trans ((forN_st ls_5_4).trans ((forN_st ls_5_5).trans ((forN_st ls_5_6).trans ((forN_st ls_5_7).trans ((forN_st ls_5_8).trans ((forN_st ls_5_9).trans (rfl))))))))))
theorem ll_5 : F_spec_l9Words_l1 (wordsL.take 16, seenL 16, lev_5) = some (.nx (wordsL.take 21, seenL 21, lev_6)) := ll_of lf_5 rfl rfl (by decide)
def lev_7 : List (List UInt8) := ([[72, 83, 72, 83, 83, 72, 72], [72, 83, 72, 83, 83, 72, 83], [72, 83, 72, 83, 83, 83, 72], [72, 83, 72, 83, 83, 83, 83], [72, 83, 83, 72, 83, 83, 72], [72, 83, 83, 72, 83, 83, 83]] : List (List UInt8))
theorem ls_6_0 : F_spec_l9Words_l2 lev_6 0 (wordsL.take 21, seenL 21, []) = some (wordsL.take 22, seenL 22, (lev_7.take 2)) := by decide +kernel
theorem ls_6_1 : F_spec_l9Words_l2 lev_6 1 (wordsL.take 22, seenL 22, (lev_7.take 2)) = some (wordsL.take 23, seenL 23, (lev_7.take 4)) := by decide +kernel
theorem ls_6_2 : F_spec_l9Words_l2 lev_6 2 (wordsL.take 23, seenL 23, (lev_7.take 4)) = some (wordsL.take 23, seenL 23, (lev_7.take 4)) := by decide +kernel
theorem ls_6_3 : F_spec_l9Words_l2 lev_6 3 (wordsL.take 23, seenL 23, (lev_7.take 4)) = some (wordsL.take 24, seenL 24, (lev_7.take 6)) := by decide +kernel
theorem ls_6_4 : F_spec_l9Words_l2 lev_6 4 (wordsL.take 24, seenL 24, (lev_7.take 6)) = some (wordsL.take 24, seenL 24, (lev_7.take 6)) := by decide +kernel
theorem ls_6_5 : F_spec_l9Words_l2 lev_6 5 (wordsL.take 24, seenL 24, (lev_7.take 6)) = some (wordsL.take 24, seenL 24, (lev_7.take 6)) := by decide +kernel
theorem ls_6_6 : F_spec_l9Words_l2 lev_6 6 (wordsL.take 24, seenL 24, (lev_7.take 6)) = some (wordsL.take 24, seenL 24, (lev_7.take 6)) := by decide +kernel
theorem ls_6_7 : F_spec_l9Words_l2 lev_6 7 (wordsL.take 24, seenL 24, (lev_7.take 6)) = some (wordsL.take 24, seenL 24, (lev_7.take 6)) := by decide +kernel
theorem ls_6_8 : F_spec_l9Words_l2 lev_6 8 (wordsL.take 24, seenL 24, (lev_7.take 6)) = some (wordsL.take 24, seenL 24, (lev_7.take 6)) := by decide +kernel
theorem ls_6_9 : F_spec_l9Words_l2 lev_6 9 (wordsL.take 24, seenL 24, (lev_7.take 6)) = some (wordsL.take 24, seenL 24, (lev_7.take 6)) := by decide +kernel
theorem lf_6 : forN (F_spec_l9Words_l2 lev_6) 10 0 (wordsL.take 21, seenL 21, []) = some (wordsL.take 24, seenL 24, (lev_7.take 6)) := (forN_st ls_6_0).trans ((forN_st ls_6_1).trans ((forN_st ls_6_2).trans ((forN_st ls_6_3).trans ((forN_st ls_6_4).trans ((forN_st ls_6_5).trans ((forN_st ls_6_6).trans ((forN_st ls_6_7).trans ((forN_st ls_6_8).trans ((forN_st ls_6_9).trans (rfl))))))))))
theorem ll_6 : F_spec_l9Words_l1 (wordsL.take 21, seenL 21, lev_6) = some (.nx (wordsL.take 24, seenL 24, lev_7)) := ll_of lf_6 rfl rfl (by decide)
theorem ll_end : F_spec_l9Words_l1 (wordsL.take 24, seenL 24, lev_7) = some (.br (wordsL, seenL 24, lev_7)) := rfl
theorem ll_loop (n : Nat) : whX F_spec_l9Words_l1 (n + 8) (wordsL.take 0, seenL 0, lev_0) = some (.inl (wordsL, seenL 24, lev_7)) := (whX_nx ll_0).trans ((whX_nx ll_1).trans ((whX_nx ll_2).trans ((whX_nx ll_3).trans ((whX_nx ll_4).trans ((whX_nx ll_5).trans ((whX_nx ll_6).trans (whX_br ll_end)))))))
theorem words_spec : F_spec_l9Words = some wordsL := by
  unfold F_spec_l9Words
  have := ll_loop (fuel - 8)
  rw [show fuel - 8 + 8 = fuel from rfl] at this
  rw [show (([] : List (List UInt8)), ([] : List TBloch), ([([] : List UInt8)] : List (List UInt8))) = (wordsL.take 0, seenL 0, lev_0) from rfl, this]
  rfl

theorem dg (X Y : Nat → TDyadic) {z : TDyadic} (h : forN (dotS X Y) 3 0 dZero = some z) : ∃ p0 p1 p2 s0 s1, DM (X 0) (Y 0) = some p0 ∧ DA dZero p0 = some s0 ∧ DM (X 1) (Y 1) = some p1 ∧ DA s0 p1 = some s1 ∧ DM (X 2) (Y 2) = some p2 ∧ DA s1 p2 = some z := by
  simp only [forN, dotS] at h
  obtain ⟨s0, h0, h⟩ := Option.bind_eq_some_iff.1 h
  obtain ⟨p0, a0, b0⟩ := Option.bind_eq_some_iff.1 h0
  obtain ⟨s1, h1, h⟩ := Option.bind_eq_some_iff.1 h
  obtain ⟨p1, a1, b1⟩ := Option.bind_eq_some_iff.1 h1
  obtain ⟨s2, h2, h⟩ := Option.bind_eq_some_iff.1 h
  obtain ⟨p2, a2, b2⟩ := Option.bind_eq_some_iff.1 h2
  cases h
  exact ⟨p0, p1, p2, s0, s1, a0, b0, a1, b1, a2, b2⟩
theorem mb_cells {a b : List TDyadic} {l : List TDyadic} (h : mbO a b = some l) : ∃ z00 z01 z02 z10 z11 z12 z20 z21 z22, l = [z00, z01, z02, z10, z11, z12, z20, z21, z22] ∧ mbCell a b 0 0 = some z00 ∧ mbCell a b 1 1 = some z11 ∧ mbCell a b 2 2 = some z22 := by
  simp only [mbO, mbRow, forN] at h
  obtain ⟨r0, h0, h⟩ := Option.bind_eq_some_iff.1 h
  obtain ⟨r1, h1, h⟩ := Option.bind_eq_some_iff.1 h
  obtain ⟨r2, h2, h⟩ := Option.bind_eq_some_iff.1 h
  cases h
  have row : ∀ {i : Nat} {s r : List TDyadic}, (((mbCell a b i 0).bind fun z => some (s ++ [z])).bind fun s => ((mbCell a b i (0 + 1)).bind fun z => some (s ++ [z])).bind fun s => ((mbCell a b i (0 + 1 + 1)).bind fun z => some (s ++ [z])).bind fun s => some s) = some r →
      ∃ x y z, mbCell a b i 0 = some x ∧ mbCell a b i 1 = some y ∧ mbCell a b i 2 = some z ∧ r = s ++ [x] ++ [y] ++ [z] := fun {i s r} h => by
    obtain ⟨s1, h1, h⟩ := Option.bind_eq_some_iff.1 h
    obtain ⟨x, hx, h1⟩ := Option.bind_eq_some_iff.1 h1
    cases h1
    obtain ⟨s1, h1, h⟩ := Option.bind_eq_some_iff.1 h
    obtain ⟨y, hy, h1⟩ := Option.bind_eq_some_iff.1 h1
    cases h1
    obtain ⟨s1, h1, h⟩ := Option.bind_eq_some_iff.1 h
    obtain ⟨z, hz, h1⟩ := Option.bind_eq_some_iff.1 h1
    cases h1
    cases h
    exact ⟨x, y, z, hx, hy, hz, rfl⟩
  obtain ⟨a0, a1, a2, q0, _, _, rfl⟩ := row h0
  obtain ⟨b0, b1, b2, _, q1, _, rfl⟩ := row h1
  obtain ⟨c0, c1, c2, _, _, q2, rfl⟩ := row h2
  exact ⟨a0, a1, a2, b0, b1, b2, c0, c1, c2, rfl, q0, q1, q2⟩
theorem v_zero : vOf dZero = rReal 0 0 := by decide +kernel
theorem v_one : vOf dOne = rReal 1073741824 0 := by decide +kernel
theorem real_of {x : TDyadic} (h : realB x = true) : dOk x = true ∧ x.Num = rReal x.Num.A x.Num.B := by
  unfold realB at h
  simp only [Bool.and_eq_true, beq_iff_eq] at h
  have hr := (d_parts h.1.1).1
  rw [rOk_iff] at hr
  rw [wr (by omega)] at h
  refine ⟨h.1.1, ?_⟩
  obtain ⟨⟨A, B, C, D⟩, e⟩ := x
  simp only [rReal, TRing.mk.injEq] at *
  exact ⟨trivial, trivial, h.1.2, h.2⟩
theorem sq_val {x p : TDyadic} (h : realB x = true) (hp : DM x x = some p) : x.Exp ≤ 30 ∧ ∃ Q, vOf p = rReal (2 ^ (30 - x.Exp).toNat * (x.Num.A * x.Num.A + 2 * (x.Num.B * x.Num.B))) Q := by
  obtain ⟨h1, h2⟩ := real_of h
  obtain ⟨x1, x2, x3⟩ := d_parts h1
  obtain ⟨e1, e2⟩ := dm_val h1 h1 hp
  refine ⟨by omega, 2 ^ (30 - x.Exp).toNat * (2 * (x.Num.A * x.Num.B)), ?_⟩
  rw [e2]
  have hs : rMul x.Num x.Num = rReal (x.Num.A * x.Num.A + 2 * (x.Num.B * x.Num.B)) (2 * (x.Num.A * x.Num.B)) := by
    have hr : rOk (rReal x.Num.A x.Num.B) = true := by rw [← h2]; exact x1
    have := real_sq hr
    rw [← h2] at this
    exact this
  rw [hs, show (60 - (x.Exp + x.Exp)).toNat = 2 * (30 - x.Exp).toNat by omega, real_it2]
theorem row_bound {x0 x1 x2 : TDyadic} (r0 : realB x0 = true) (r1 : realB x1 = true) (r2 : realB x2 = true) (X : Nat → TDyadic) (hX0 : X 0 = x0) (hX1 : X 1 = x1) (hX2 : X 2 = x2) (h : forN (dotS X X) 3 0 dZero = some dOne) :
    ∀ x, (x = x0 ∨ x = x1 ∨ x = x2) → x.Exp ≤ 30 ∧ x.Num.A * x.Num.A + 2 * (x.Num.B * x.Num.B) ≤ 2 ^ x.Exp.toNat := by
  obtain ⟨p0, p1, p2, s0, s1, a0, b0, a1, b1, a2, b2⟩ := dg X X h
  rw [hX0] at a0
  rw [hX1] at a1
  rw [hX2] at a2
  have o0 := (real_of r0).1
  have o1 := (real_of r1).1
  have o2 := (real_of r2).1
  have k0 := dm_ok o0 o0 a0
  have k1 := dm_ok o1 o1 a1
  have k2 := dm_ok o2 o2 a2
  have t0 := da_ok dZero_ok k0 b0
  have t1 := da_ok t0 k1 b1
  obtain ⟨e0, Q0, v0⟩ := sq_val r0 a0
  obtain ⟨e1, Q1, v1⟩ := sq_val r1 a1
  obtain ⟨e2, Q2, v2⟩ := sq_val r2 a2
  have w0 := da_val dZero_ok k0 b0
  have w1 := da_val t0 k1 b1
  have w2 := da_val t1 k2 b2
  rw [w1, w0, v0, v1, v2, v_zero, v_one] at w2
  have hA := congrArg TRing.A w2
  simp only [rPlus, rReal] at hA
  have pos : ∀ x : TDyadic, 0 ≤ (2 : Int) ^ (30 - x.Exp).toNat * (x.Num.A * x.Num.A + 2 * (x.Num.B * x.Num.B)) := fun x => by
    have q1 := sq_nonneg x.Num.A
    have q2 := sq_nonneg x.Num.B
    exact Int.mul_nonneg (Int.le_of_lt (Int.pow_pos (by decide))) (by omega)
  have fin : ∀ x : TDyadic, dOk x = true → x.Exp ≤ 30 → (2 : Int) ^ (30 - x.Exp).toNat * (x.Num.A * x.Num.A + 2 * (x.Num.B * x.Num.B)) ≤ 1073741824 → x.Exp ≤ 30 ∧ x.Num.A * x.Num.A + 2 * (x.Num.B * x.Num.B) ≤ 2 ^ x.Exp.toNat := fun x ho he hx => by
    refine ⟨he, ?_⟩
    have := (d_parts ho).2.1
    have hp : (2 : Int) ^ (30 - x.Exp).toNat * 2 ^ x.Exp.toNat = 1073741824 := by
      rw [← Int.pow_add, show (30 - x.Exp).toNat + x.Exp.toNat = 30 by omega]; decide
    rw [← hp] at hx
    exact Int.le_of_mul_le_mul_left hx (Int.pow_pos (by decide))
  have q0 := pos x0
  have q1 := pos x1
  have q2 := pos x2
  rintro x (rfl | rfl | rfl)
  · exact fin _ o0 e0 (by omega)
  · exact fin _ o1 e1 (by omega)
  · exact fin _ o2 e2 (by omega)
theorem bv_bound {l : List TDyadic} (h : bvO l = true) : l.length = 9 ∧ ∀ x ∈ l, realB x = true ∧ x.Exp ≤ 30 ∧ x.Num.A * x.Num.A + 2 * (x.Num.B * x.Num.B) ≤ 2 ^ x.Exp.toNat := by
  unfold bvO at h
  simp only [Bool.and_eq_true, decide_eq_true_eq] at h
  obtain ⟨⟨h1, h2⟩, h3⟩ := h
  refine ⟨h1, ?_⟩
  obtain ⟨x0, x1, x2, x3, x4, x5, x6, x7, x8, rfl⟩ := nine h1
  cases hm : mbO [x0, x1, x2, x3, x4, x5, x6, x7, x8] (turn9 [x0, x1, x2, x3, x4, x5, x6, x7, x8]) with
  | none => rw [hm] at h3; simp at h3
  | some p =>
    have hp : p = unit9 := by
      rw [hm] at h3
      cases hd : detO [x0, x1, x2, x3, x4, x5, x6, x7, x8] with
      | none => rw [hd] at h3; simp at h3
      | some d =>
        rw [hd] at h3
        simp only [Bool.and_eq_true, decide_eq_true_eq] at h3
        exact h3.1
    subst hp
    obtain ⟨z00, z01, z02, z10, z11, z12, z20, z21, z22, e, c0, c1, c2⟩ := mb_cells hm
    unfold unit9 at e
    simp only [List.cons.injEq, and_true] at e
    obtain ⟨rfl, _, _, _, rfl, _, _, _, rfl⟩ := e
    have hr : ∀ x ∈ [x0, x1, x2, x3, x4, x5, x6, x7, x8], realB x = true := fun x hx => List.all_eq_true.1 h2 x hx
    have k0 := row_bound (hr x0 (by simp)) (hr x1 (by simp)) (hr x2 (by simp)) (fun k => [x0, x1, x2, x3, x4, x5, x6, x7, x8].getD (3 * 0 + k) dZero) rfl rfl rfl (by
      rw [← c0]; unfold mbCell; simp only [forN, dotS]; rfl)
    have k1 := row_bound (hr x3 (by simp)) (hr x4 (by simp)) (hr x5 (by simp)) (fun k => [x0, x1, x2, x3, x4, x5, x6, x7, x8].getD (3 * 1 + k) dZero) rfl rfl rfl (by
      rw [← c1]; unfold mbCell; simp only [forN, dotS]; rfl)
    have k2 := row_bound (hr x6 (by simp)) (hr x7 (by simp)) (hr x8 (by simp)) (fun k => [x0, x1, x2, x3, x4, x5, x6, x7, x8].getD (3 * 2 + k) dZero) rfl rfl rfl (by
      rw [← c2]; unfold mbCell; simp only [forN, dotS]; rfl)
    intro x hx
    refine ⟨hr x hx, ?_⟩
    simp only [List.mem_cons, List.not_mem_nil, or_false] at hx
    rcases hx with rfl | rfl | rfl | rfl | rfl | rfl | rfl | rfl | rfl
    · exact k0 _ (.inl rfl)
    · exact k0 _ (.inr (.inl rfl))
    · exact k0 _ (.inr (.inr rfl))
    · exact k1 _ (.inl rfl)
    · exact k1 _ (.inr (.inl rfl))
    · exact k1 _ (.inr (.inr rfl))
    · exact k2 _ (.inl rfl)
    · exact k2 _ (.inr (.inl rfl))
    · exact k2 _ (.inr (.inr rfl))
/-- A number of a Bloch matrix, raised. -/
theorem raised_real {x : TDyadic} (h : realB x = true) (hb : x.Num.A * x.Num.A + 2 * (x.Num.B * x.Num.B) ≤ 2 ^ x.Exp.toNat) {E : Int} (h1 : x.Exp ≤ E) (h2 : E ≤ 30) :
    ∃ a, F_impl_raised x E = some (a, true) ∧ (-2000000000 ≤ a.A ∧ a.A ≤ 2000000000) ∧ (a.A % 2 = if x.Exp = E then x.Num.A % 2 else 0) := by
  obtain ⟨ho, hn⟩ := real_of h
  obtain ⟨x1, x2, x3⟩ := d_parts ho
  obtain ⟨a, oa, a1, a2, a3, a4⟩ := raised_some ho h1 (by omega)
  have hok : oa = true := a4 (fun j hj => by
    obtain ⟨A', B', r1, r2, _⟩ := real_it j x.Num.A x.Num.B
    rw [hn, r1]
    have hle : (2 : Int) ^ j * (x.Num.A * x.Num.A + 2 * (x.Num.B * x.Num.B)) ≤ 2 ^ j * 2 ^ x.Exp.toNat := Int.mul_le_mul_of_nonneg_left hb (Int.le_of_lt (Int.pow_pos (by decide)))
    rw [← r2, ← Int.pow_add] at hle
    have hp : (2 : Int) ^ (j + x.Exp.toNat) ≤ 2 ^ 30 := by
      have := Nat.pow_le_pow_right (show 0 < 2 by decide) (show j + x.Exp.toNat ≤ 30 by omega)
      exact_mod_cast this
    have hp2 : (2 : Int) ^ 30 = 1073741824 := by decide
    have q1 := sq_nonneg A'
    have q2 := sq_nonneg B'
    have b1 := sq_le (a := A') (N := 1073741824) (M := 1000000000) (by decide) (by omega) (by decide)
    have b2 := sq_le (a := B') (N := 1073741824) (M := 1000000000) (by decide) (by omega) (by decide)
    rw [rOk_iff]
    simp only [rReal]
    omega)
  subst hok
  have ha := a3 rfl
  rw [rOk_iff] at a2
  refine ⟨a, a1, by omega, ?_⟩
  obtain ⟨A', B', r1, r2, r3⟩ := real_it (E - x.Exp).toNat x.Num.A x.Num.B
  rw [hn, r1] at ha
  by_cases he : x.Exp = E
  · rw [if_pos he]
    have h0 : (E - x.Exp).toNat = 0 := by omega
    rw [h0] at r1
    have : rReal x.Num.A x.Num.B = rReal A' B' := r1
    simp only [rReal, TRing.mk.injEq] at this
    rw [ha]
    show A' % 2 = _
    rw [this.1]
  · rw [if_neg he, ha]
    exact r3 (by omega)
theorem exp_max {b : TBloch} (hl : b.Cells.length = 9) (hb : ∀ x ∈ b.Cells, 0 ≤ x.Exp ∧ x.Exp ≤ 30) : ∃ E, F_spec_l9Exp b = some E ∧ F_impl_blochExp b = some E ∧ E ≤ 30 ∧ ∀ x ∈ b.Cells, x.Exp ≤ E := by
  obtain ⟨E, h, h1, h2, h3⟩ := forN_inv (f := F_impl_blochExp_l1 b) (fun k (s : Int) => 0 ≤ s ∧ s ≤ 30 ∧ ∀ (i : Nat) x, i < k → b.Cells[i]? = some x → x.Exp ≤ s) b.Cells.length 0 0 ⟨by decide, by decide, fun i x h => absurd h (Nat.not_lt_zero _)⟩ (fun j s _ hj ⟨i1, i2, i3⟩ => by
    have hx := List.getElem?_eq_getElem (show j < b.Cells.length by omega)
    have hm := hb _ (List.mem_of_getElem? hx)
    generalize b.Cells[j] = y at hx hm
    refine ⟨if s < y.Exp then y.Exp else s, ?_, ?_, ?_, fun i x hi hxi => ?_⟩
    · unfold F_impl_blochExp_l1
      rw [getI_nat, hx]; rfl
    · split <;> omega
    · split <;> omega
    · by_cases hij : i = j
      · subst hij; rw [hx] at hxi; cases hxi; split <;> omega
      · have := i3 i x (by omega) hxi
        split <;> omega)
  have es : F_spec_l9Exp_l1 b = F_impl_blochExp_l1 b := by
    funext i k
    unfold F_spec_l9Exp_l1 F_impl_blochExp_l1 F_spec_l1Most
    cases getI b.Cells (i : Int) with
    | none => rfl
    | some x =>
      simp only [Option.bind_some]
      by_cases h : x.Exp < k
      · rw [decide_eq_true h, if_neg (by omega)]; rfl
      · rw [decide_eq_false h]
        by_cases h2 : k < x.Exp
        · rw [if_pos h2]; rfl
        · rw [if_neg h2]
          have : x.Exp = k := by omega
          rw [this]; rfl
  refine ⟨E, ?_, ?_, h2, fun x hx => ?_⟩
  · unfold F_spec_l9Exp; rw [chk_t (by omega), es, h]; rfl
  · unfold F_impl_blochExp; rw [chk_t (by omega), h]; rfl
  · obtain ⟨i, hi⟩ := List.mem_iff_getElem?.1 hx
    have := (List.getElem?_eq_some_iff.1 hi).1
    exact h3 i x (by omega) hi
def chI (E : Int) (x : TDyadic) : Int := if x.Exp = E ∧ x.Num.A % 2 ≠ 0 then 49 else 48
theorem and_one {a : Int} (h : -2000000000 ≤ a ∧ a ≤ 2000000000) : bits .and .i64 a 1 = a % 2 := by
  have : bits .and .i64 a 1 = IntKind.i64.wrap ((BitVec.ofInt 64 a &&& 1#64).toNat : Int) := rfl
  rw [this, BitVec.toNat_and]
  have e1 : (1#64).toNat = 1 := by decide
  rw [e1, Nat.and_one_is_mod, BitVec.toNat_ofInt]
  rw [wrap_i64 ⟨by omega, by omega⟩]
  omega
theorem tmod_two (a : Int) : (Int.tmod a 2 != 0) = decide (a % 2 ≠ 0) := by
  rw [Bool.eq_iff_iff]
  simp only [bne_iff_ne, decide_eq_true_eq]
  constructor
  · intro h e
    exact h (Int.tmod_eq_zero_of_dvd (Int.dvd_of_emod_eq_zero e))
  · intro h e
    exact h (Int.emod_eq_zero_of_dvd (Int.dvd_of_tmod_eq_zero e))
theorem u8_zero : IntKind.u8.wrap (48 + IntKind.u8.wrap 0) = 48 := by decide
theorem u8_one : IntKind.u8.wrap (48 + IntKind.u8.wrap 1) = 49 := by decide
theorem parity_both (a0 : TBloch) : ∃ s ok, F_spec_ParityOf a0 = some (s, ok) ∧ F_impl_ParityOf a0 = some (s, ok) := by
  unfold F_spec_ParityOf F_impl_ParityOf
  rw [spec_valid, impl_valid]
  cases h : bvO a0.Cells with
  | false => exact ⟨_, _, rfl, rfl⟩
  | true =>
    obtain ⟨l9, hb⟩ := bv_bound h
    have hexp : ∀ x ∈ a0.Cells, 0 ≤ x.Exp ∧ x.Exp ≤ 30 := fun x hx => ⟨(d_parts (real_of (hb x hx).1).1).2.1, (hb x hx).2.1⟩
    obtain ⟨E, e1, e2, e3, e4⟩ := exp_max l9 hexp
    simp only [Option.bind_some, Bool.not_true, cond_false]
    rw [e2, chk_t (by omega)]
    simp only [Option.bind_some]
    rw [chk_t (by omega)]
    obtain ⟨s, s1, s2⟩ := forN_inv (f := F_spec_ParityOf_l1 a0) (fun k (s : List UInt8) => s.length = k ∧ s = bts ((a0.Cells.take k).map (chI E))) a0.Cells.length 0 [] ⟨rfl, rfl⟩ (fun j s _ hj ⟨i1, i2⟩ => by
      have hx := List.getElem?_eq_getElem (show j < a0.Cells.length by omega)
      generalize a0.Cells[j] = y at hx
      have htake : bts ((a0.Cells.take (j + 1)).map (chI E)) = s ++ [UInt8.ofNat (chI E y).toNat] := by
        rw [List.take_add_one, hx, i2]; simp [bts]
      refine ⟨s ++ [UInt8.ofNat (chI E y).toNat], ?_, by simp; omega, htake.symm⟩
      unfold F_spec_ParityOf_l1
      rw [getI_nat, hx]
      simp only [Option.bind_some]
      rw [e1]
      simp only [Option.bind_some]
      rw [tmod_two]
      unfold chI
      by_cases hc : y.Exp = E ∧ y.Num.A % 2 ≠ 0
      · rw [if_pos hc, show ((y.Exp == E) && decide (y.Num.A % 2 ≠ 0)) = true by simp [hc.1, hc.2]]
        simp only [cond_true]
        rw [chk_t (by simp; omega)]
        rfl
      · rw [if_neg hc, show ((y.Exp == E) && decide (y.Num.A % 2 ≠ 0)) = false by
          rw [Bool.and_eq_false_iff]
          by_cases he : y.Exp = E
          · right; simp only [decide_eq_false_iff_not]; intro h; exact hc ⟨he, h⟩
          · left; simp [he]]
        simp only [cond_false]
        rw [chk_t (by simp; omega)]
        rfl)
    rcases forX_inv (f := F_impl_ParityOf_l1 a0 E) (fun k (s : List Int) => s = (a0.Cells.take k).map (chI E)) (fun _ => False) a0.Cells.length 0 [] rfl (fun j s _ hj i2 => by
      have hx := List.getElem?_eq_getElem (show j < a0.Cells.length by omega)
      generalize a0.Cells[j] = y at hx
      have hy := hb y (List.mem_of_getElem? hx)
      obtain ⟨a, r1, r2, r3⟩ := raised_real hy.1 hy.2.2 (e4 y (List.mem_of_getElem? hx)) e3
      have hlen : s.length ≤ 9 := by rw [i2, List.length_map, List.length_take]; omega
      have htake : (a0.Cells.take (j + 1)).map (chI E) = s ++ [chI E y] := by
        rw [List.take_add_one, hx, i2]; simp
      refine .inl ⟨s ++ [chI E y], ?_, htake.symm⟩
      unfold F_impl_ParityOf_l1
      rw [getI_nat, hx]
      simp only [Option.bind_some]
      rw [r1]
      simp only [Option.bind_some, Bool.not_true, cond_false]
      rw [chk_t (by omega), and_one r2, r3]
      unfold chI
      by_cases he : y.Exp = E
      · rw [if_pos he]
        by_cases hp : y.Num.A % 2 = 0
        · rw [hp, if_neg (by simp), u8_zero]
        · have : y.Num.A % 2 = 1 := by omega
          rw [this, if_pos ⟨he, by decide⟩, u8_one]
      · rw [if_neg he, if_neg (fun h => he h.1), u8_zero]) with ⟨s', t1, t2⟩ | ⟨r, _, hf⟩
    · rw [s1, t1, t2, s2.2]
      exact ⟨_, _, rfl, rfl⟩
    · exact hf.elim

theorem oneQubit_d : Dr F_spec_l1Cur_oneQubit (fun m => ∃ l, m = TMatrix.mk 2 2 l ∧ BL 10 1 l ∧ l.length = 4) 1000 := fun code a s k hb h0 h1 h2 => by
  unfold F_spec_l1Cur_oneQubit
  obtain ⟨c, a1, s1, e1, ⟨p1, p2, p3⟩, q1, r1⟩ := built_d 1 (by decide) 10 (by decide) [1, 1, 7, 7, 5, 3, 8, 12, 2] (by decide) (by decide) code a s k hb h0 h1 h2
  simp only at e1
  rw [show F_spec_l1Cur_built (Tl1Cur.mk code a s) 1 10 [1, 1, 7, 7, 5, 3, 8, 12, 2] = _ from e1]
  simp only [Option.bind_some]
  obtain ⟨Q, gs⟩ := c
  simp only at p1 p2 p3
  subst p1
  obtain ⟨l, l1, l2, l3⟩ := ten_bd p3 p2
  have hop : F_spec_l6Op (TCircuit.mk ((1 : Nat) : Int) gs) = some (TMatrix.mk 2 2 l) := by
    unfold F_spec_l6Op
    obtain ⟨l', b, t1, t2⟩ := sp_run (n := 1) (E := 2) (x := TCircuit.mk 1 gs) (by decide) rfl p3 (by simp only; omega) (by decide) (unit_ok 2) (unit_len 2) false
    simp only
    rw [chk_t (by rw [wru (by omega)]; omega), show shlK .i64 1 (IntKind.u64.wrap ((1 : Nat) : Int)) = ((2 : Nat) : Int) from shl_u (n := 1) (by decide), unit_spec 2 (by decide)]
    simp only [Option.bind_some]
    rw [show F_spec_l2C_run (Tl2C.mk false) (TCircuit.mk ((1 : Nat) : Int) gs) (TMatrix.mk (2 : Nat) (2 : Nat) (unitL 2)) = _ from t1]
    rcases t2.2.2 rfl with ⟨p, rfl⟩ | ⟨p, rfl⟩
    · have p : runO 1 2 gs (unitL 2) = some l' := p
      rw [l1] at p
      cases p
      rfl
    · have p : runO 1 2 gs (unitL 2) = none := p
      rw [l1] at p
      cases p
  rw [hop]
  exact ⟨_, _, _, rfl, ⟨l, rfl, l2, l3⟩, q1, r1⟩
theorem bloch_nine {l : List TDyadic} (h1 : BL 10 1 l) (h2 : l.length = 4) : ∃ x, F_spec_l9Bloch (TMatrix.mk 2 2 l) = some (TBloch.mk x, true) ∧ x.length = 9 := by
  obtain ⟨l', a1, a2, a3⟩ := adj_some (R := 2) (C := 2) (bl_ok h1)
  have hs : F_spec_l3Adj (TMatrix.mk 2 2 l) = some (TMatrix.mk 2 2 l') := by
    have := spec_adj (R := 2) (C := 2) (bl_ok h1) h2 (by decide) (by decide)
    rw [a1] at this; exact this
  obtain ⟨x, x1, x2⟩ := bg_bd h1 (adj_bd (by decide) h1 a1).1
  refine ⟨x, ?_, x2⟩
  rw [bg_spec (bl_ok h1) h2 a2 a3 hs, x1]
theorem anyBloch_d : Dr F_spec_l1Cur_anyBloch (fun b => b.Cells.length ≤ 9) 1020 := fun code a s k hb h0 h1 h2 => by
  unfold F_spec_l1Cur_anyBloch
  obtain ⟨m, a1, s1, e1, ⟨l, rfl, l1, l2⟩, q1, r1⟩ := oneQubit_d code a s k hb h0 h1 (by omega)
  rw [e1]; simp only [Option.bind_some]
  obtain ⟨x, x1, x2⟩ := bloch_nine l1 l2
  rw [x1]; simp only [Option.bind_some]
  obtain ⟨v2, a2, s2, e2, p2, q2, r2⟩ := pick_d 14 (by decide) code a1 s1 (k + 1000) hb q1 r1 (by omega)
  simp only at e2
  rw [e2]; simp only [Option.bind_some]
  by_cases c0 : v2 = 0
  · subst c0
    simp only [beq_self_eq_true, cond_true]
    obtain ⟨v3, a3, s3, e3, p3, q3, r3⟩ := pick_d 9 (by decide) code a2 s2 (k + 1000 + 2) hb q2 r2 (by omega)
    simp only at e3
    rw [e3]; simp only [Option.bind_some]
    obtain ⟨v4, a4, s4, e4, p4, q4, r4⟩ := dyadic_d code a3 s3 (k + 1000 + 2 + 2) hb q3 r3 (by omega)
    rw [e4]; simp only [Option.bind_some]
    have hv3 := pick_lt p3 (by decide)
    obtain ⟨y, hy, _⟩ := getI_at (l := x) (i := v3) hv3.1 (by rw [x2]; omega)
    rw [hy]; simp only [Option.bind_some]
    exact ⟨_, _, _, rfl, by simp only [List.length_set]; omega, q4, by first | omega | (simp only; omega)⟩
  · rw [show (v2 == 0) = false by simp [c0]]
    simp only [cond_false]
    by_cases c1 : v2 = 1
    · subst c1
      simp only [beq_self_eq_true, cond_true]
      rw [chk_t (by omega)]
      simp only [Option.bind_some]
      exact ⟨_, _, _, rfl, by simp only [List.length_drop]; omega, q2, by first | omega | (simp only; omega)⟩
    · rw [show (v2 == 1) = false by simp [c1]]
      simp only [cond_false]
      by_cases c2 : v2 = 2
      · subst c2
        simp only [beq_self_eq_true, cond_true]
        rw [chk_t (by omega)]
        obtain ⟨z, z1, z2⟩ := forN_inv (f := F_spec_l1Cur_anyBloch_l1) (fun _ (t : List TDyadic) => t.length = 9) x.length 0 x x2 (fun j t _ hj ht => by
          unfold F_spec_l1Cur_anyBloch_l1
          rw [getI_nat, List.getElem?_eq_getElem (show j < t.length by omega)]
          exact ⟨_, rfl, by simp only [List.length_set]; omega⟩)
        rw [z1]; simp only [Option.bind_some]
        exact ⟨_, _, _, rfl, by simp only; omega, q2, by first | omega | (simp only; omega)⟩
      · rw [show (v2 == 2) = false by simp [c2]]
        simp only [cond_false, Option.bind_some]
        exact ⟨_, _, _, rfl, by simp only; omega, q2, by first | omega | (simp only; omega)⟩

def wcF (w : List UInt8) : Option (List TDyadic × Bool × Bool) := (forN (F_laws_FnCliffordWords_l1 w) w.length 0 []).bind fun G => (F_spec_OperatorOf (TCircuit.mk 1 G)).bind fun p => (F_spec_BlochOf p.1).map fun q => (q.1.Cells, p.2, q.2)
theorem wc_0 : (wordsL[0]?).bind wcF = (listL[0]?).map fun x => (x, true, true) := by decide +kernel
theorem wc_1 : (wordsL[1]?).bind wcF = (listL[1]?).map fun x => (x, true, true) := by decide +kernel
theorem wc_2 : (wordsL[2]?).bind wcF = (listL[2]?).map fun x => (x, true, true) := by decide +kernel
theorem wc_3 : (wordsL[3]?).bind wcF = (listL[3]?).map fun x => (x, true, true) := by decide +kernel
theorem wc_4 : (wordsL[4]?).bind wcF = (listL[4]?).map fun x => (x, true, true) := by decide +kernel
theorem wc_5 : (wordsL[5]?).bind wcF = (listL[5]?).map fun x => (x, true, true) := by decide +kernel
theorem wc_6 : (wordsL[6]?).bind wcF = (listL[6]?).map fun x => (x, true, true) := by decide +kernel
theorem wc_7 : (wordsL[7]?).bind wcF = (listL[7]?).map fun x => (x, true, true) := by decide +kernel
theorem wc_8 : (wordsL[8]?).bind wcF = (listL[8]?).map fun x => (x, true, true) := by decide +kernel
theorem wc_9 : (wordsL[9]?).bind wcF = (listL[9]?).map fun x => (x, true, true) := by decide +kernel
theorem wc_10 : (wordsL[10]?).bind wcF = (listL[10]?).map fun x => (x, true, true) := by decide +kernel
theorem wc_11 : (wordsL[11]?).bind wcF = (listL[11]?).map fun x => (x, true, true) := by decide +kernel
theorem wc_12 : (wordsL[12]?).bind wcF = (listL[12]?).map fun x => (x, true, true) := by decide +kernel
theorem wc_13 : (wordsL[13]?).bind wcF = (listL[13]?).map fun x => (x, true, true) := by decide +kernel
theorem wc_14 : (wordsL[14]?).bind wcF = (listL[14]?).map fun x => (x, true, true) := by decide +kernel
theorem wc_15 : (wordsL[15]?).bind wcF = (listL[15]?).map fun x => (x, true, true) := by decide +kernel
theorem wc_16 : (wordsL[16]?).bind wcF = (listL[16]?).map fun x => (x, true, true) := by decide +kernel
theorem wc_17 : (wordsL[17]?).bind wcF = (listL[17]?).map fun x => (x, true, true) := by decide +kernel
theorem wc_18 : (wordsL[18]?).bind wcF = (listL[18]?).map fun x => (x, true, true) := by decide +kernel
theorem wc_19 : (wordsL[19]?).bind wcF = (listL[19]?).map fun x => (x, true, true) := by decide +kernel
theorem wc_20 : (wordsL[20]?).bind wcF = (listL[20]?).map fun x => (x, true, true) := by decide +kernel
theorem wc_21 : (wordsL[21]?).bind wcF = (listL[21]?).map fun x => (x, true, true) := by decide +kernel
theorem wc_22 : (wordsL[22]?).bind wcF = (listL[22]?).map fun x => (x, true, true) := by decide +kernel
theorem wc_23 : (wordsL[23]?).bind wcF = (listL[23]?).map fun x => (x, true, true) := by decide +kernel
theorem wc_all : ∀ i, i < 24 → (wordsL[i]?).bind wcF = (listL[i]?).map fun x => (x, true, true)
  | 0, _ => wc_0
  | 1, _ => wc_1
  | 2, _ => wc_2
  | 3, _ => wc_3
  | 4, _ => wc_4
  | 5, _ => wc_5
  | 6, _ => wc_6
  | 7, _ => wc_7
  | 8, _ => wc_8
  | 9, _ => wc_9
  | 10, _ => wc_10
  | 11, _ => wc_11
  | 12, _ => wc_12
  | 13, _ => wc_13
  | 14, _ => wc_14
  | 15, _ => wc_15
  | 16, _ => wc_16
  | 17, _ => wc_17
  | 18, _ => wc_18
  | 19, _ => wc_19
  | 20, _ => wc_20
  | 21, _ => wc_21
  | 22, _ => wc_22
  | 23, _ => wc_23
  | _ + 24, h => absurd h (by omega)
theorem forX_find {ρ : Type} {f : Nat → Unit → Option (Ex Unit ρ)} (p : Nat → Bool) (g : Nat → ρ) : ∀ n i, (∀ j, i ≤ j → j < i + n → f j () = some (bif p j then .rt (g j) else .nx ())) →
    forX f n i () = some (match (List.range' i n).find? p with | some j => .inr (g j) | none => .inl ())
  | 0, i, _ => rfl
  | n + 1, i, h => by
    rw [forX, h i (Nat.le_refl i) (by omega), List.range'_succ, List.find?_cons]
    cases hp : p i with
    | true => rfl
    | false => exact forX_find p g n (i + 1) (fun j h1 h2 => h j (by omega) (by omega))
theorem list_nine (i : Nat) (x : List TDyadic) (h : listL[i]? = some x) : x.length = 9 := by
  have : ∀ y ∈ listL, y.length = 9 := by decide
  exact this x (List.mem_of_getElem? h)
def hitB (b : TBloch) (i : Nat) : Bool := match listL[i]? with | some x => decide (x = b.Cells) | none => false
theorem impl_idx (b : TBloch) : ((chk (listL.length ≤ 9223372036854775807) <| (forX (F_impl_CliffordIndex_l1 listL b) listL.length 0 ()).bind <| orR fun _ => some ((0, false))) : Option (Int × Bool)) =
    some (match (List.range' 0 24).find? (hitB b) with | some j => ((j : Int), true) | none => (0, false)) := by
  rw [chk_t (by decide), show listL.length = 24 from rfl, forX_find (hitB b) (fun j => ((j : Int), true)) 24 0 (fun j _ hj => by
    have hj : j < 24 := by omega
    unfold F_impl_CliffordIndex_l1 hitB
    rw [getI_nat]
    cases hl : listL[j]? with
    | none => exact absurd (List.getElem?_eq_none_iff.1 hl) (by show ¬ (24 ≤ j); omega)
    | some x =>
      rw [Option.bind_some, impl_leq (by rw [list_nine j x hl]; omega), Option.bind_some]
      show (bif decide (x = b.Cells) then _ else _) = some (bif decide (x = b.Cells) then _ else _)
      cases decide (x = b.Cells) <;> rfl)]
  cases (List.range' 0 24).find? (hitB b) <;> rfl
theorem bv_all : ∀ i : Fin 24, (match listL[i.val]? with | some x => bvO x | none => false) = true := by decide +kernel
theorem find_all : ∀ i : Fin 24, (match listL[i.val]? with | some x => (List.range' 0 24).find? (hitB (TBloch.mk x)) | none => none) = some i.val := by decide +kernel
theorem idx_all {i : Nat} (hi : i < 24) {x : List TDyadic} (hx : listL[i]? = some x) : F_impl_CliffordIndex (TBloch.mk x) = some ((i : Int), true) := by
  have h1 := bv_all ⟨i, hi⟩
  have h2 := find_all ⟨i, hi⟩
  simp only [hx] at h1 h2
  unfold F_impl_CliffordIndex
  rw [impl_valid, h1, list_impl]
  simp only [Option.bind_some, Bool.not_true, cond_false]
  rw [impl_idx, h2]

theorem orR_go {α β : Type} {x : Option (α ⊕ β)} {s : α} {k : α → Option β} (h : x = some (.inl s)) : (x.bind <| orR k) = k s := by rw [h]; rfl
theorem drawWord {code : List Int} (hb : BOk code) : ∃ v : Int, F_spec_DrawCliffordWord code = some v ∧ -1 ≤ v ∧ v ≤ 24 := by
  unfold F_spec_DrawCliffordWord
  obtain ⟨v2, a2, s2, e2, p2, q2, r2⟩ := pick_d 26 (by decide) code 0 0 0 hb (by decide) (by decide) (by decide)
  simp only at e2
  rw [e2]; simp only [Option.bind_some]
  rw [wrap_i64 (a := v2 - 1) ⟨by omega, by omega⟩]
  exact ⟨_, rfl, by omega, by omega⟩
theorem words_both (v : Int) : (F_impl_CliffordWord v = some ([], false) ∧ F_spec_CliffordWord v = some ([], false)) ∨ ∃ i w, v = ((i : Nat) : Int) ∧ i < 24 ∧ wordsL[i]? = some w ∧ F_impl_CliffordWord v = some (w, true) ∧ F_spec_CliffordWord v = some (w, true) := by
  unfold F_spec_CliffordWord F_impl_CliffordWord F_spec_l1In F_impl_within
  rw [list_impl, words_spec]
  simp only [Option.bind_some]
  rw [show IntKind.i64.wrap ((wordsL.length : Int) - 1) = 23 from rfl]
  cases h : decide (0 ≤ v) && decide (v ≤ 23) with
  | false => exact .inl ⟨rfl, rfl⟩
  | true =>
    simp only [Bool.and_eq_true, decide_eq_true_eq] at h
    refine .inr ?_
    obtain ⟨i, rfl⟩ : ∃ i : Nat, v = i := ⟨v.toNat, by omega⟩
    have hi : i < 24 := by omega
    have hg := List.getElem?_eq_getElem (l := wordsL) (i := i) hi
    refine ⟨i, _, rfl, hi, hg, ?_, ?_⟩
    · rw [getI_nat, hg]; rfl
    · rw [getI_nat, hg]; rfl
theorem law_FnCliffordWords (a0 a1 : List Int) (o0 : a0.length ≤ 9223372036854775807 ∧ ∀ y ∈ a0, U8 y) (o1 : a1.length ≤ 9223372036854775807 ∧ ∀ y ∈ a1, U8 y) : F_laws_FnCliffordWords a0 a1 = some true := by
  unfold F_laws_FnCliffordWords F_laws_big
  simp only [Option.bind_some]
  cases (decide (1048576 < (a0.length : Int))) || (decide ((IntKind.i64.wrap (1048576 - (a0.length : Int))) < (a1.length : Int))) with
  | true => rfl
  | false =>
    simp only [cond_false]
    obtain ⟨v, hv, v1, v2⟩ := drawWord (code := a0) o0
    rw [hv]; simp only [Option.bind_some]
    have hrest : ((F_spec_DrawParityOf a1).bind fun r_13 => (F_impl_ParityOf r_13).bind fun (r_14, r_15) => (F_spec_ParityOf r_13).bind fun (r_16, r_17) => some (((r_15 == r_17) && (r_14 == r_16)))) = some true := by
      obtain ⟨b, x1, x2, x3, _⟩ := anyBloch_d a1 0 0 0 o1 (by decide) (by decide) (by decide)
      unfold F_spec_DrawParityOf F_spec_DrawIsValidBloch
      rw [x3]; simp only [Option.bind_some]
      obtain ⟨t, ok, t1, t2⟩ := parity_both b
      rw [t1, t2]
      simp
    rcases words_both v with ⟨w1, w2⟩ | ⟨i, w, rfl, hi, hw, w1, w2⟩
    · rw [w1, w2]
      simp only [Option.bind_some, beq_self_eq_true, Bool.not_true, Bool.or_self, cond_false]
      exact hrest
    · rw [w1, w2]
      simp only [Option.bind_some, beq_self_eq_true, Bool.not_true, Bool.or_self, cond_false, cond_true]
      refine (orR_go (s := ()) ?_).trans ?_
      rotate_left
      · exact hrest
      have hwl : w.length ≤ 100 := by
        have : ∀ y ∈ wordsL, y.length ≤ 100 := by decide
        exact this w (List.mem_of_getElem? hw)
      rw [chk_t (by omega)]
      have hc := wc_all i hi
      rw [hw] at hc
      have hx := List.getElem?_eq_getElem (l := listL) (i := i) hi
      have hj := idx_all hi hx
      rw [hx] at hc
      generalize listL[i] = x at hc hj
      simp only [Option.bind_some, Option.map_some] at hc
      unfold wcF at hc
      obtain ⟨G, g1, hc⟩ := Option.bind_eq_some_iff.1 hc
      obtain ⟨⟨M, ok1⟩, g2, hc⟩ := Option.bind_eq_some_iff.1 hc
      obtain ⟨⟨b, ok2⟩, g3, hc⟩ := Option.map_eq_some_iff.1 hc
      simp only [Prod.mk.injEq] at hc
      obtain ⟨rfl, rfl, rfl⟩ := hc
      rw [g1, Option.bind_some, g2, Option.bind_some, g3, Option.bind_some]
      rw [show F_impl_CliffordIndex b = some ((i : Int), true) from hj]
      simp
end Go.VK
