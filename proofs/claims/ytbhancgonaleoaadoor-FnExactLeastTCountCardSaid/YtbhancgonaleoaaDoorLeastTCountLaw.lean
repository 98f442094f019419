/- The plain law of FnExactLeastTCount: what its Lean function answers, for all arguments. -/
import Derived.Test.YtbhancgonaleoaaDoorLeastTCountFn
import Derived.Test.YtbhancgonaleoaaDoorLibI
set_option maxRecDepth 10000
set_option maxHeartbeats 1000000
set_option linter.unusedSimpArgs false
set_option linter.unusedVariables false
namespace Go.VK
/-- Two loops in step that both end by themselves. -/
theorem whX2_inv {σ ρ ρ' : Type} {f : σ → Option (Ex σ ρ)} {g : σ → Option (Ex σ ρ')} (I : σ → Prop) (Q : σ → Prop) (m : σ → Nat)
    (h : ∀ s, I s → (∃ s', f s = some (.nx s') ∧ g s = some (.nx s') ∧ I s' ∧ m s' < m s) ∨ ∃ s', f s = some (.br s') ∧ g s = some (.br s') ∧ Q s') :
    ∀ (k : Nat) (s : σ), I s → m s < k → ∃ s', whX f k s = some (.inl s') ∧ whX g k s = some (.inl s') ∧ Q s'
  | 0, _, _, hm => absurd hm (Nat.not_lt_zero _)
  | k + 1, s, hI, hm => by
    rcases h s hI with ⟨s', h1, h1', h2, h3⟩ | ⟨s', h1, h1', h2⟩
    · obtain ⟨s'', h4, h4', h5⟩ := whX2_inv I Q m h k s' h2 (by omega)
      exact ⟨s'', by simp only [whX, h1, Option.bind_some]; exact h4, by simp only [whX, h1', Option.bind_some]; exact h4', h5⟩
    · exact ⟨s', by simp only [whX, h1, Option.bind_some], by simp only [whX, h1', Option.bind_some], h2⟩
theorem fuel_big {n : Nat} (h : n < 18446744073709551616) : n < fuel := h

/-- A coefficient that is taken. -/
def cfOk (n : Int) : Bool := decide (-1000000000 ≤ n) && decide (n ≤ 1000000000)
def rOk (x : TRing) : Bool := cfOk x.A && cfOk x.B && cfOk x.C && cfOk x.D
def rEven (x : TRing) : Bool := (Int.tmod (IntKind.i64.wrap (x.A + x.C)) 2 == 0) && (Int.tmod (IntKind.i64.wrap (x.B + x.D)) 2 == 0)
def dOk (x : TDyadic) : Bool := rOk x.Num && (decide (0 ≤ x.Exp) && decide (x.Exp ≤ 60)) && ((x.Exp == 0) || !rEven x.Num)
theorem cfOk_iff {n : Int} : cfOk n = true ↔ -1000000000 ≤ n ∧ n ≤ 1000000000 := by simp [cfOk]
theorem rOk_iff {x : TRing} : rOk x = true ↔ ((-1000000000 ≤ x.A ∧ x.A ≤ 1000000000) ∧ (-1000000000 ≤ x.B ∧ x.B ≤ 1000000000)) ∧ ((-1000000000 ≤ x.C ∧ x.C ≤ 1000000000) ∧ (-1000000000 ≤ x.D ∧ x.D ≤ 1000000000)) := by
  simp only [rOk, Bool.and_eq_true, cfOk_iff]
  constructor
  · rintro ⟨⟨⟨a, b⟩, c⟩, d⟩; exact ⟨⟨a, b⟩, c, d⟩
  · rintro ⟨⟨a, b⟩, c, d⟩; exact ⟨⟨⟨a, b⟩, c⟩, d⟩
theorem spec_ring (x : TRing) : F_spec_l1Good x = some (rOk x) := by
  unfold F_spec_l1Good F_spec_l1All
  rw [chk_t (by simp)]
  rcases forX_any (f := F_spec_l1All_l1 [x.A, x.B, x.C, x.D] (-1000000000) 1000000000) (l := [x.A, x.B, x.C, x.D]) (p := fun n => !cfOk n) (q := fun _ => false) (fun i y hy => by
    have e : F_spec_l1In y (-1000000000) 1000000000 = some (cfOk y) := rfl
    unfold F_spec_l1All_l1; simp only [getI_nat, hy, Option.bind_some, e]; cases cfOk y <;> rfl) with ⟨h1, h2⟩ | ⟨h1, i, _, h2⟩
  · rw [h2]; simp at h1; simp [orR, rOk, h1]
  · rw [h2]; simp only [Option.bind_some, orR]; congr 1; symm
    cases h : rOk x with
    | false => rfl
    | true => simp only [rOk, Bool.and_eq_true] at h; simp [h] at h1
theorem impl_coef (n : Int) : F_impl_isCoef n = some (cfOk n) := rfl
theorem impl_ring (x : TRing) : F_impl_IsValidRing x = some (rOk x) := by
  unfold F_impl_IsValidRing rOk
  simp only [impl_coef, Option.bind_some, gb]
  cases cfOk x.A <;> cases cfOk x.B <;> cases cfOk x.C <;> cases cfOk x.D <;> rfl
theorem spec_even (x : TRing) : F_spec_l1Even x = some (rEven x) := rfl
theorem impl_even (x : TRing) : F_impl_isEven x = some (rEven x) := rfl
theorem spec_dyadic (x : TDyadic) : F_spec_l2Good x = some (dOk x) := by
  unfold F_spec_l2Good F_spec_l1In dOk
  simp only [spec_ring, spec_even, Option.bind_some, gb]
  cases rOk x.Num <;> cases decide (0 ≤ x.Exp) && decide (x.Exp ≤ 60) <;> cases x.Exp == 0 <;> cases rEven x.Num <;> rfl
theorem impl_dyadic (x : TDyadic) : F_impl_IsValidDyadic x = some (dOk x) := by
  unfold F_impl_IsValidDyadic F_impl_within dOk
  simp only [impl_ring, impl_even, Option.bind_some, gb]
  cases rOk x.Num <;> cases decide (0 ≤ x.Exp) && decide (x.Exp ≤ 60) <;> cases x.Exp == 0 <;> cases rEven x.Num <;> rfl
def rZero : TRing := TRing.mk 0 0 0 0
def dZero : TDyadic := TDyadic.mk rZero 0
theorem ring_if (out : TRing) (args : List TRing) (hl : args.length ≤ 10) : F_impl_ringIf out args = some (if args.all rOk && rOk out then (out, true) else (rZero, false)) := by
  unfold F_impl_ringIf
  rw [chk_t (by omega), chk_t (by simp; omega)]
  rcases forX_any (f := F_impl_ringIf_l1 args out) (l := args ++ [out]) (p := fun x => !rOk x) (q := fun _ => (TRing.mk 0 0 0 0, false)) (fun i y hy => by
    unfold F_impl_ringIf_l1; simp only [getI_nat, hy, Option.bind_some, impl_ring]; cases rOk y <;> rfl) with ⟨h1, h2⟩ | ⟨h1, i, _, h2⟩
  · rw [h2]
    have : (args.all rOk && rOk out) = true := by
      simp only [List.any_append, List.any_cons, List.any_nil, Bool.or_false, Bool.or_eq_false_iff] at h1
      simp only [Bool.and_eq_true, List.all_eq_true]
      exact ⟨fun x hx => by have := List.any_eq_false.1 h1.1 x hx; simpa using this, by simpa using h1.2⟩
    rw [this]; rfl
  · rw [h2]
    have : (args.all rOk && rOk out) = false := by
      simp only [List.any_append, List.any_cons, List.any_nil, Bool.or_false, Bool.or_eq_true] at h1
      rcases h1 with h | h
      · obtain ⟨x, hx, hp⟩ := List.any_eq_true.1 h
        have : args.all rOk = false := by rw [List.all_eq_false]; exact ⟨x, hx, by simpa using hp⟩
        rw [this]; rfl
      · simp at h; rw [h]; simp
    rw [this]; rfl

def rHalf (x : TRing) : TRing := TRing.mk (Int.tdiv (x.B - x.D) 2) (Int.tdiv (x.A + x.C) 2) (Int.tdiv (x.B + x.D) 2) (Int.tdiv (x.C - x.A) 2)
def rRoot (x : TRing) : TRing := TRing.mk (x.B - x.D) (x.A + x.C) (x.B + x.D) (x.C - x.A)
theorem wr {a : Int} (h : -9000000000000000000 ≤ a ∧ a ≤ 9000000000000000000) : IntKind.i64.wrap a = a := wrap_i64 ⟨by omega, by omega⟩
theorem tdiv_le' {a : Int} (h : -2000000000 ≤ a ∧ a ≤ 2000000000) : -1000000000 ≤ Int.tdiv a 2 ∧ Int.tdiv a 2 ≤ 1000000000 := by
  rcases Int.le_total 0 a with h0 | h0
  · rw [Int.tdiv_eq_ediv_of_nonneg h0]; omega
  · have e : a = -(-a) := by omega
    rw [e, Int.neg_tdiv, Int.tdiv_eq_ediv_of_nonneg (by omega)]; omega
theorem half_ok {x : TRing} (h : rOk x = true) : rOk (rHalf x) = true := by
  rw [rOk_iff] at h ⊢
  exact ⟨⟨tdiv_le' (by omega), tdiv_le' (by omega)⟩, tdiv_le' (by omega), tdiv_le' (by omega)⟩
theorem spec_root {x : TRing} (h : rOk x = true) : F_spec_l1Root x = some (rRoot x) := by
  rw [rOk_iff] at h
  unfold F_spec_l1Root rRoot
  rw [wr (a := x.B - x.D) (by omega), wr (a := x.A + x.C) (by omega), wr (a := x.B + x.D) (by omega), wr (a := x.C - x.A) (by omega)]
theorem spec_half {x : TRing} (h : rOk x = true) : F_spec_l1Half x = some (rHalf x) := by
  unfold F_spec_l1Half
  rw [spec_root h]
  have h' := h
  rw [rOk_iff] at h
  have t := half_ok h'
  rw [rOk_iff] at t
  simp only [Option.bind_some, rRoot]
  unfold rHalf at t ⊢
  simp only at t
  rw [wr (a := Int.tdiv (x.B - x.D) 2) (by omega), wr (a := Int.tdiv (x.A + x.C) 2) (by omega), wr (a := Int.tdiv (x.B + x.D) 2) (by omega), wr (a := Int.tdiv (x.C - x.A) 2) (by omega)]
theorem impl_half {x : TRing} (h : rOk x = true) (he : rEven x = true) : F_impl_DivRootTwo x = some (rHalf x, true) := by
  unfold F_impl_DivRootTwo
  have h' := h
  have t := half_ok h'
  have tt := t
  rw [rOk_iff] at h t
  simp only [impl_ring, impl_even, h', he, Option.bind_some, gb, Bool.not_true, Bool.not_false, cond_true, Bool.or_self, cond_false]
  rw [wr (a := x.B - x.D) (by omega), wr (a := x.A + x.C) (by omega), wr (a := x.B + x.D) (by omega), wr (a := x.C - x.A) (by omega)]
  unfold rHalf at t tt ⊢
  simp only at t
  rw [wr (a := Int.tdiv (x.B - x.D) 2) (by omega), wr (a := Int.tdiv (x.A + x.C) 2) (by omega), wr (a := Int.tdiv (x.B + x.D) 2) (by omega), wr (a := Int.tdiv (x.C - x.A) 2) (by omega)]
  rw [ring_if _ _ (by simp)]
  simp [h', tt]
/-- Both bring a number to its lowest terms, and alike. -/
theorem low_both {x : TRing} {e : Int} (hx : rOk x = true) (he : 0 ≤ e ∧ e ≤ 60) : ∃ z, F_spec_l2Low x e = some z ∧ F_impl_DyadicOf x e = some (z, true) ∧ dOk z = true := by
  obtain ⟨⟨e', A, B, C, D⟩, h1, h2, h3, h4, h5, h6⟩ := whX2_inv (f := F_spec_l2Low_l1) (g := F_impl_DyadicOf_l1) (fun s => rOk (TRing.mk s.2.1 s.2.2.1 s.2.2.2.1 s.2.2.2.2) = true ∧ 0 ≤ s.1 ∧ s.1 ≤ 60)
    (fun s => rOk (TRing.mk s.2.1 s.2.2.1 s.2.2.2.1 s.2.2.2.2) = true ∧ 0 ≤ s.1 ∧ s.1 ≤ 60 ∧ ((s.1 == 0) || !rEven (TRing.mk s.2.1 s.2.2.1 s.2.2.2.1 s.2.2.2.2)) = true) (fun s => s.1.toNat)
    (fun s ⟨hr, h0, h60⟩ => by
      obtain ⟨e, A, B, C, D⟩ := s
      simp only at hr h0 h60
      unfold F_spec_l2Low_l1 F_impl_DyadicOf_l1
      simp only [spec_even, impl_even, Option.bind_some, gb]
      by_cases hpos : 0 < e
      · rw [decide_eq_true hpos]
        cases hev : rEven (TRing.mk A B C D) with
        | true =>
          simp only [cond_true, Bool.and_self, spec_half hr, impl_half hr hev, Option.bind_some]
          refine .inl ⟨_, rfl, rfl, ⟨half_ok hr, ?_⟩, ?_⟩
          · show 0 ≤ IntKind.i64.wrap (e - 1) ∧ IntKind.i64.wrap (e - 1) ≤ 60
            rw [wr (by omega)]; omega
          · show (IntKind.i64.wrap (e - 1)).toNat < e.toNat
            rw [wr (by omega)]; omega
        | false =>
          simp only [cond_true, Bool.and_false, cond_false]
          exact .inr ⟨_, rfl, rfl, hr, h0, h60, by simp [hev]⟩
      · rw [decide_eq_false hpos]
        simp only [cond_false, Bool.false_and]
        have : e = 0 := by omega
        exact .inr ⟨_, rfl, rfl, hr, h0, h60, by simp [this]⟩)
    fuel (e, x.A, x.B, x.C, x.D) ⟨hx, he.1, he.2⟩ (fuel_big (by omega))
  refine ⟨TDyadic.mk (TRing.mk A B C D) e', ?_, ?_, ?_⟩
  · unfold F_spec_l2Low; rw [h1]; rfl
  · unfold F_impl_DyadicOf F_impl_within
    simp only [impl_ring, hx, Option.bind_some, gb, Bool.not_true, Bool.not_false, cond_true, Bool.false_or]
    rw [decide_eq_true he.1, decide_eq_true he.2]
    simp only [Bool.and_self, Bool.not_true, cond_false]
    rw [h2]; rfl
  · simp only at h3 h4 h5 h6
    unfold dOk
    simp only [h3, decide_eq_true h4, decide_eq_true h5, Bool.true_and, Bool.and_self]
    exact h6

theorem d_parts {x : TDyadic} (h : dOk x = true) : rOk x.Num = true ∧ 0 ≤ x.Exp ∧ x.Exp ≤ 60 := by
  unfold dOk at h
  simp only [Bool.and_eq_true, decide_eq_true_eq] at h
  exact ⟨h.1.1, h.1.2.1, h.1.2.2⟩
theorem dZero_ok : dOk dZero = true := by decide
theorem rZero_ok : rOk rZero = true := by decide
def cB (b : Bool) : Tl2C := Tl2C.mk b
theorem spec_cring (b : Bool) (x : TRing) : F_spec_l2C_ring (cB b) x = some (if rOk x then (x, cB b) else (rZero, cB true)) := by
  unfold F_spec_l2C_ring
  rw [spec_ring]
  simp only [Option.bind_some]
  cases rOk x <;> rfl
def rMul (x y : TRing) : TRing := (F_spec_l1Mul x y).getD rZero
theorem impl_rmul {x y : TRing} (hx : rOk x = true) (hy : rOk y = true) : F_impl_MulRing x y = some (if rOk (rMul x y) then (rMul x y, true) else (rZero, false)) := by
  have e := ring_if (rMul x y) [x, y] (by simp)
  simp only [List.all_cons, List.all_nil, hx, hy, Bool.true_and] at e
  have e2 : F_impl_MulRing x y = (F_impl_ringIf (rMul x y) [x, y]).bind fun p => some (p.1, p.2) := rfl
  rw [e2, e]
  cases rOk (rMul x y) <;> rfl
theorem mul_both {x y : TDyadic} (hx : dOk x = true) (hy : dOk y = true) :
    (∃ z, dOk z = true ∧ (∀ b, F_spec_l2C_mul (cB b) x y = some (z, cB b)) ∧ F_impl_MulDyadic x y = some (z, true)) ∨
      ((∀ b, ∃ z, dOk z = true ∧ F_spec_l2C_mul (cB b) x y = some (z, cB true)) ∧ F_impl_MulDyadic x y = some (dZero, false)) := by
  obtain ⟨x1, x2, x3⟩ := d_parts hx
  obtain ⟨y1, y2, y3⟩ := d_parts hy
  have hw : IntKind.i64.wrap (x.Exp + y.Exp) = x.Exp + y.Exp := wr (by omega)
  have hi : ∀ q : TRing × Bool, F_impl_MulRing x.Num y.Num = some q → F_impl_MulDyadic x y = (bif !q.2 then some (dZero, false) else (F_impl_DyadicOf q.1 (x.Exp + y.Exp)).bind fun p => some (p.1, p.2)) := fun q hq => by
    unfold F_impl_MulDyadic
    rw [hq]
    simp only [Option.bind_some, impl_dyadic, hx, hy, gb, Bool.not_true, Bool.not_false, cond_true, Bool.false_or, hw]
    rfl
  by_cases he : x.Exp + y.Exp ≤ 60
  · have hs : ∀ b, F_spec_l2C_mul (cB b) x y = (F_spec_l2C_ring (cB b) (rMul x.Num y.Num)).bind fun p => (F_spec_l2Low p.1 (x.Exp + y.Exp)).bind fun r => some (r, p.2) := fun b => by
      unfold F_spec_l2C_mul
      rw [hw, decide_eq_false (show ¬ (60 : Int) < x.Exp + y.Exp by omega)]
      rfl
    cases hr : rOk (rMul x.Num y.Num) with
    | true =>
      obtain ⟨z, z1, z2, z3⟩ := low_both hr (e := x.Exp + y.Exp) ⟨by omega, he⟩
      refine .inl ⟨z, z3, fun b => ?_, ?_⟩
      · rw [hs, spec_cring, hr]; simp only [if_true, Option.bind_some, z1]
      · rw [hi _ (impl_rmul x1 y1), hr]; simp only [if_true, Bool.not_true, cond_false, z2, Option.bind_some]
    | false =>
      refine .inr ⟨fun b => ?_, ?_⟩
      · obtain ⟨z, z1, z2, z3⟩ := low_both rZero_ok (e := x.Exp + y.Exp) ⟨by omega, he⟩
        exact ⟨z, z3, by rw [hs, spec_cring, hr]; simp only [Bool.false_eq_true, if_false, Option.bind_some, z1]⟩
      · rw [hi _ (impl_rmul x1 y1), hr]; rfl
  · refine .inr ⟨fun b => ⟨dZero, dZero_ok, ?_⟩, ?_⟩
    · unfold F_spec_l2C_mul
      rw [hw, decide_eq_true (show (60 : Int) < x.Exp + y.Exp by omega)]
      rfl
    · rw [hi _ (impl_rmul x1 y1)]
      cases hr : rOk (rMul x.Num y.Num) with
      | false => rfl
      | true =>
        simp only [if_true, Bool.not_true, cond_false]
        unfold F_impl_DyadicOf F_impl_within
        simp only [impl_ring, hr, Option.bind_some, gb, Bool.not_true, Bool.not_false, cond_true, Bool.false_or]
        rw [decide_eq_false (show ¬ x.Exp + y.Exp ≤ 60 by omega)]
        simp only [Bool.and_false, Bool.not_false, cond_true]
        rfl

theorem impl_root {x : TRing} (h : rOk x = true) : F_impl_MulRootTwo x = some (if rOk (rRoot x) then (rRoot x, true) else (rZero, false)) := by
  unfold F_impl_MulRootTwo
  have h' := h
  rw [rOk_iff] at h
  rw [wr (a := x.B - x.D) (by omega), wr (a := x.A + x.C) (by omega), wr (a := x.B + x.D) (by omega), wr (a := x.C - x.A) (by omega)]
  have e := ring_if (rRoot x) [x] (by simp)
  simp only [List.all_cons, List.all_nil, h', Bool.true_and] at e
  show (F_impl_ringIf (rRoot x) [x]).bind _ = _
  rw [e]
  cases rOk (rRoot x) <;> rfl
def rTup (b : Bool) (x : TRing) (e : Int) : Bool × Int × Int × Int × Int × Int := (b, x.A, x.B, x.C, x.D, e)
def iTup (x : TRing) (ok : Bool) (e : Int) : Int × Int × Int × Int × Bool × Int := (x.A, x.B, x.C, x.D, ok, e)
/-- A number's numerator for a greater exponent, in the specification's loop. -/
theorem spec_raise {f : Bool × Int × Int × Int × Int × Int → Option (Ex (Bool × Int × Int × Int × Int × Int) (TDyadic × Tl2C))} {E : Int} (hE : E ≤ 60)
    (hf : ∀ b x e, rOk x = true → 0 ≤ e → e ≤ 60 → f (rTup b x e) = some (bif decide (e < E) then .nx (if rOk (rRoot x) then rTup b (rRoot x) (e + 1) else rTup true rZero (e + 1)) else .br (rTup b x e))) :
    ∀ (k : Nat) (b : Bool) (x : TRing) (e : Int), rOk x = true → 0 ≤ e → e ≤ E → (E - e).toNat < k → ∃ b' x', whX f k (rTup b x e) = some (.inl (rTup b' x' E)) ∧ rOk x' = true ∧ (b = true → b' = true)
  | 0, _, _, _, _, _, _, hk => absurd hk (Nat.not_lt_zero _)
  | k + 1, b, x, e, hx, h0, h1, hk => by
    have h := hf b x e hx h0 (by omega)
    by_cases hlt : e < E
    · rw [decide_eq_true hlt, cond_true] at h
      cases hr : rOk (rRoot x) with
      | true =>
        rw [hr] at h; simp only [if_true] at h
        obtain ⟨b', x', e1, e2, e3⟩ := spec_raise hE hf k b (rRoot x) (e + 1) hr (by omega) (by omega) (by omega)
        exact ⟨b', x', by simp only [whX, h, Option.bind_some]; exact e1, e2, e3⟩
      | false =>
        rw [hr] at h; simp only [Bool.false_eq_true, if_false] at h
        obtain ⟨b', x', e1, e2, e3⟩ := spec_raise hE hf k true rZero (e + 1) rZero_ok (by omega) (by omega) (by omega)
        exact ⟨b', x', by simp only [whX, h, Option.bind_some]; exact e1, e2, fun _ => e3 rfl⟩
    · rw [decide_eq_false hlt, cond_false] at h
      have : e = E := by omega
      subst this
      exact ⟨b, x, by simp only [whX, h, Option.bind_some], hx, id⟩
theorem impl_raise_step {E : Int} {x : TRing} {e : Int} (hx : rOk x = true) (h0 : 0 ≤ e) (h1 : e ≤ 60) (ok : Bool) :
    F_impl_raised_l1 E (iTup x ok e) = some (bif decide (e < E) && ok then .nx (if rOk (rRoot x) then iTup (rRoot x) true (e + 1) else iTup rZero false (e + 1)) else .br (iTup x ok e)) := by
  unfold F_impl_raised_l1 iTup
  simp only [impl_root hx]
  rw [wr (a := e + 1) (by omega)]
  cases decide (e < E) && ok <;> cases rOk (rRoot x) <;> rfl
theorem raise_both {f : Bool × Int × Int × Int × Int × Int → Option (Ex (Bool × Int × Int × Int × Int × Int) (TDyadic × Tl2C))} {E : Int} (hE : E ≤ 60)
    (hf : ∀ b x e, rOk x = true → 0 ≤ e → e ≤ 60 → f (rTup b x e) = some (bif decide (e < E) then .nx (if rOk (rRoot x) then rTup b (rRoot x) (e + 1) else rTup true rZero (e + 1)) else .br (rTup b x e))) :
    ∀ (k : Nat) (x : TRing) (e : Int), rOk x = true → 0 ≤ e → e ≤ E → (E - e).toNat < k →
      (∃ x', rOk x' = true ∧ (∀ b, whX f k (rTup b x e) = some (.inl (rTup b x' E))) ∧ whX (F_impl_raised_l1 E) k (iTup x true e) = some (.inl (iTup x' true E))) ∨
        ((∀ b, ∃ x', rOk x' = true ∧ whX f k (rTup b x e) = some (.inl (rTup true x' E))) ∧ ∃ x'' e', rOk x'' = true ∧ whX (F_impl_raised_l1 E) k (iTup x true e) = some (.inl (iTup x'' false e')))
  | 0, _, _, _, _, _, hk => absurd hk (Nat.not_lt_zero _)
  | k + 1, x, e, hx, h0, h1, hk => by
    have h := fun b => hf b x e hx h0 (by omega)
    have hg := impl_raise_step (E := E) hx h0 (by omega) true
    by_cases hlt : e < E
    · simp only [decide_eq_true hlt, cond_true, Bool.true_and] at h hg
      cases hr : rOk (rRoot x) with
      | true =>
        simp only [hr, if_true] at h hg
        rcases raise_both hE hf k (rRoot x) (e + 1) hr (by omega) (by omega) (by omega) with ⟨x', e1, e2, e3⟩ | ⟨e1, x'', e', e2, e3⟩
        · exact .inl ⟨x', e1, fun b => by simp only [whX, h, Option.bind_some]; exact e2 b, by simp only [whX, hg, Option.bind_some]; exact e3⟩
        · refine .inr ⟨fun b => ?_, x'', e', e2, by simp only [whX, hg, Option.bind_some]; exact e3⟩
          obtain ⟨x', e4, e5⟩ := e1 b
          exact ⟨x', e4, by simp only [whX, h, Option.bind_some]; exact e5⟩
      | false =>
        simp only [hr, Bool.false_eq_true, if_false] at h hg
        refine .inr ⟨fun b => ?_, rZero, e + 1, rZero_ok, ?_⟩
        · obtain ⟨b', x', e1, e2, e3⟩ := spec_raise hE hf k true rZero (e + 1) rZero_ok (by omega) (by omega) (by omega)
          have : b' = true := e3 rfl
          subst this
          exact ⟨x', e2, by simp only [whX, h, Option.bind_some]; exact e1⟩
        · cases k with
          | zero => omega
          | succ k =>
            have hg2 := impl_raise_step (E := E) rZero_ok (show 0 ≤ e + 1 by omega) (by omega) false
            simp only [Bool.and_false, cond_false] at hg2
            simp only [whX, hg, Option.bind_some, hg2]
    · simp only [decide_eq_false hlt, cond_false, Bool.false_and] at h hg
      have : e = E := by omega
      subst this
      exact .inl ⟨x, hx, fun b => by simp only [whX, h, Option.bind_some], by simp only [whX, hg, Option.bind_some]⟩
def rAdd (x y : TRing) : TRing := (F_spec_l1Add x y).getD rZero
theorem impl_radd {x y : TRing} (hx : rOk x = true) (hy : rOk y = true) : F_impl_AddRing x y = some (if rOk (rAdd x y) then (rAdd x y, true) else (rZero, false)) := by
  have e := ring_if (rAdd x y) [x, y] (by simp)
  simp only [List.all_cons, List.all_nil, hx, hy, Bool.true_and] at e
  have e2 : F_impl_AddRing x y = (F_impl_ringIf (rAdd x y) [x, y]).bind fun p => some (p.1, p.2) := rfl
  rw [e2, e]
  cases rOk (rAdd x y) <;> rfl
theorem add_l1 (y : TDyadic) (b : Bool) (x : TRing) (e : Int) (hx : rOk x = true) (h0 : 0 ≤ e) (h1 : e ≤ 60) :
    F_spec_l2C_add_l1 y (rTup b x e) = some (bif decide (e < y.Exp) then .nx (if rOk (rRoot x) then rTup b (rRoot x) (e + 1) else rTup true rZero (e + 1)) else .br (rTup b x e)) := by
  have hr := spec_cring b (rRoot x)
  unfold cB at hr
  unfold F_spec_l2C_add_l1 rTup
  simp only [spec_root hx, hr, Option.bind_some]
  rw [wr (a := e + 1) (by omega)]
  cases decide (e < y.Exp) <;> cases rOk (rRoot x) <;> rfl
theorem add_l2 (E : Int) (b0 : Bool) (A C D : Int) (b : Bool) (x : TRing) (e : Int) (hx : rOk x = true) (h0 : 0 ≤ e) (h1 : e ≤ 60) :
    F_spec_l2C_add_l2 E b0 A C D (rTup b x e) = some (bif decide (e < E) then .nx (if rOk (rRoot x) then rTup b (rRoot x) (e + 1) else rTup true rZero (e + 1)) else .br (rTup b x e)) := by
  have hr := spec_cring b (rRoot x)
  unfold cB at hr
  unfold F_spec_l2C_add_l2 rTup
  simp only [spec_root hx, hr, Option.bind_some]
  rw [wr (a := e + 1) (by omega)]
  cases decide (e < E) <;> cases rOk (rRoot x) <;> rfl
/-- The end of a sum in the specification. -/
def fin (b : Bool) (a c : TRing) (E : Int) : Option (TDyadic × Tl2C) :=
  (F_spec_l2C_ring (cB b) (rAdd a c)).bind fun p => (F_spec_l2Low p.1 E).bind fun r => some (r, p.2)
theorem fin_bad (a c : TRing) {E : Int} (hE : 0 ≤ E ∧ E ≤ 60) : ∃ z, dOk z = true ∧ fin true a c E = some (z, cB true) := by
  unfold fin
  rw [spec_cring]
  cases hr : rOk (rAdd a c) with
  | true =>
    obtain ⟨z, z1, _, z3⟩ := low_both hr hE
    exact ⟨z, z3, by simp only [if_true, Option.bind_some, z1]⟩
  | false =>
    obtain ⟨z, z1, _, z3⟩ := low_both rZero_ok hE
    exact ⟨z, z3, by simp only [Bool.false_eq_true, if_false, Option.bind_some, z1]⟩
theorem fin_both {a c : TRing} {E : Int} (hE : 0 ≤ E ∧ E ≤ 60) :
    (rOk (rAdd a c) = true ∧ ∃ z, dOk z = true ∧ (∀ b, fin b a c E = some (z, cB b)) ∧ F_impl_DyadicOf (rAdd a c) E = some (z, true)) ∨ (rOk (rAdd a c) = false ∧ ∀ b, ∃ z, dOk z = true ∧ fin b a c E = some (z, cB true)) := by
  cases hr : rOk (rAdd a c) with
  | true =>
    obtain ⟨z, z1, z2, z3⟩ := low_both hr hE
    exact .inl ⟨rfl, z, z3, fun b => by unfold fin; rw [spec_cring, hr]; simp only [if_true, Option.bind_some, z1], z2⟩
  | false =>
    obtain ⟨z, z1, _, z3⟩ := low_both rZero_ok hE
    exact .inr ⟨rfl, fun b => ⟨z, z3, by unfold fin; rw [spec_cring, hr]; simp only [Bool.false_eq_true, if_false, Option.bind_some, z1]⟩⟩
/-- The specification's sum: its two loops, then its end. -/
theorem spec_add_eq (b : Bool) (x y : TDyadic) {b1 b2 : Bool} {a c : TRing} {e1 e2 : Int} (h1 : whX (F_spec_l2C_add_l1 y) fuel (rTup b x.Num x.Exp) = some (.inl (rTup b1 a e1)))
    (h2 : whX (F_spec_l2C_add_l2 e1 b1 a.A a.C a.D) fuel (rTup b1 y.Num y.Exp) = some (.inl (rTup b2 c e2))) : F_spec_l2C_add (cB b) x y = fin b2 a c e1 := by
  unfold F_spec_l2C_add
  unfold rTup at h1 h2
  show (whX (F_spec_l2C_add_l1 y) fuel (b, x.Num.A, x.Num.B, x.Num.C, x.Num.D, x.Exp)).bind _ = _
  rw [h1]
  simp only [Option.bind_some, orR]
  rw [h2]
  rfl
theorem raised_of {x : TDyadic} {E : Int} {a : TRing} {ok : Bool} {e : Int} (h : whX (F_impl_raised_l1 E) fuel (iTup x.Num true x.Exp) = some (.inl (iTup a ok e))) : F_impl_raised x E = some (a, ok) := by
  unfold F_impl_raised
  unfold iTup at h
  rw [h]
  rfl
theorem comb_add {x y : TDyadic} (hx : dOk x = true) (hy : dOk y = true) {E : Int} (hE : (if x.Exp < y.Exp then y.Exp else x.Exp) = E) {a c : TRing} {oa oc : Bool} (h1 : F_impl_raised x E = some (a, oa)) (h2 : F_impl_raised y E = some (c, oc))
    (ha : rOk a = true) (hc : rOk c = true) : F_impl_AddDyadic x y = (bif oa && oc && rOk (rAdd a c) then F_impl_DyadicOf (rAdd a c) E else some (dZero, false)) := by
  unfold F_impl_AddDyadic F_impl_combined
  rw [hE]
  simp only [impl_dyadic, hx, hy, Option.bind_some, gb, Bool.not_true, Bool.not_false, cond_true, Bool.or_self, cond_false, h1, h2, impl_radd ha hc]
  cases oa <;> cases oc <;> cases hr : rOk (rAdd a c) <;> simp only [Bool.not_true, Bool.not_false, Bool.or_self, Bool.or_true, Bool.true_or, Bool.false_or, Bool.or_false, Bool.and_self, Bool.and_true, Bool.and_false, Bool.true_and, Bool.false_and, if_true, Bool.false_eq_true, if_false, Option.bind_some, cond_true, cond_false]
  all_goals first | rfl | (cases F_impl_DyadicOf (rAdd a c) E <;> rfl)
theorem add_both {x y : TDyadic} (hx : dOk x = true) (hy : dOk y = true) :
    (∃ z, dOk z = true ∧ (∀ b, F_spec_l2C_add (cB b) x y = some (z, cB b)) ∧ F_impl_AddDyadic x y = some (z, true)) ∨
      ((∀ b, ∃ z, dOk z = true ∧ F_spec_l2C_add (cB b) x y = some (z, cB true)) ∧ F_impl_AddDyadic x y = some (dZero, false)) := by
  obtain ⟨x1, x2, x3⟩ := d_parts hx
  obtain ⟨y1, y2, y3⟩ := d_parts hy
  have stay : ∀ {f : Bool × Int × Int × Int × Int × Int → Option (Ex (Bool × Int × Int × Int × Int × Int) (TDyadic × Tl2C))} {t : Bool × Int × Int × Int × Int × Int}, f t = some (.br t) → whX f fuel t = some (.inl t) := fun h => by
    rw [show fuel = (fuel - 1) + 1 from rfl]; simp only [whX, h, Option.bind_some]
  have stayI : ∀ {E : Int} {z : TDyadic}, rOk z.Num = true → 0 ≤ z.Exp → z.Exp ≤ 60 → ¬ z.Exp < E → F_impl_raised z E = some (z.Num, true) := fun {E z} h h0 h1 hn => by
    refine raised_of (e := z.Exp) ?_
    have := impl_raise_step (E := E) h h0 h1 true
    simp only [decide_eq_false hn, Bool.false_and, cond_false] at this
    rw [show fuel = (fuel - 1) + 1 from rfl]; simp only [whX, this, Option.bind_some]
  by_cases hlt : x.Exp < y.Exp
  · have hE : (if x.Exp < y.Exp then y.Exp else x.Exp) = y.Exp := if_pos hlt
    have hst : ∀ (b : Bool) (a : TRing), whX (F_spec_l2C_add_l2 y.Exp b a.A a.C a.D) fuel (rTup b y.Num y.Exp) = some (.inl (rTup b y.Num y.Exp)) := fun b a => stay (by
      rw [add_l2 _ _ _ _ _ _ _ _ y1 y2 y3, decide_eq_false (by omega)]; rfl)
    rcases raise_both (f := F_spec_l2C_add_l1 y) (E := y.Exp) y3 (add_l1 y) fuel x.Num x.Exp x1 x2 (by omega) (fuel_big (by omega)) with ⟨a, a1, a2, a3⟩ | ⟨a1, a, e', a2, a3⟩
    · have hc := comb_add hx hy hE (raised_of a3) (stayI y1 y2 y3 (by omega)) a1 y1
      rcases fin_both (a := a) (c := y.Num) (E := y.Exp) ⟨y2, y3⟩ with ⟨r1, z, z1, z2, z3⟩ | ⟨r1, z1⟩
      · exact .inl ⟨z, z1, fun b => by rw [spec_add_eq b x y (a2 b) (hst b a)]; exact z2 b, by rw [hc, r1]; exact z3⟩
      · refine .inr ⟨fun b => ?_, by rw [hc, r1]; rfl⟩
        obtain ⟨z, z2, z3⟩ := z1 b
        exact ⟨z, z2, by rw [spec_add_eq b x y (a2 b) (hst b a)]; exact z3⟩
    · have hc := comb_add hx hy hE (raised_of a3) (stayI y1 y2 y3 (by omega)) a2 y1
      refine .inr ⟨fun b => ?_, by rw [hc]; rfl⟩
      obtain ⟨a', _, a5⟩ := a1 b
      obtain ⟨z, z2, z3⟩ := fin_bad a' y.Num (E := y.Exp) ⟨y2, y3⟩
      exact ⟨z, z2, by rw [spec_add_eq b x y a5 (hst true a')]; exact z3⟩
  · have hE : (if x.Exp < y.Exp then y.Exp else x.Exp) = x.Exp := if_neg hlt
    have hst : ∀ (b : Bool), whX (F_spec_l2C_add_l1 y) fuel (rTup b x.Num x.Exp) = some (.inl (rTup b x.Num x.Exp)) := fun b => stay (by
      rw [add_l1 y _ _ _ x1 x2 x3, decide_eq_false (by omega)]; rfl)
    have hr := fun (b0 : Bool) => raise_both (f := F_spec_l2C_add_l2 x.Exp b0 x.Num.A x.Num.C x.Num.D) (E := x.Exp) x3 (add_l2 _ _ _ _ _) fuel y.Num y.Exp y1 y2 (by omega) (fuel_big (by omega))
    have hcm : ∀ {c : TRing} {oc : Bool}, F_impl_raised y x.Exp = some (c, oc) → rOk c = true → F_impl_AddDyadic x y = (bif true && oc && rOk (rAdd x.Num c) then F_impl_DyadicOf (rAdd x.Num c) x.Exp else some (dZero, false)) := fun h hc =>
      comb_add hx hy hE (stayI x1 x2 x3 (by omega)) h x1 hc
    rcases hr true with ⟨c, c1, c2, c3⟩ | ⟨c1, c, e', c2, c3⟩
    · have hc := hcm (raised_of c3) c1
      have hs : ∀ b, F_spec_l2C_add (cB b) x y = fin b x.Num c x.Exp := fun b => by
        rcases hr b with ⟨c', d1, d2, d3⟩ | ⟨_, c', e', _, d3⟩
        · rw [c3] at d3
          have : c = c' := by cases c; cases c'; simp only [iTup, Option.some.injEq, Sum.inl.injEq, Prod.mk.injEq] at d3; simp only [TRing.mk.injEq]; exact ⟨d3.1, d3.2.1, d3.2.2.1, d3.2.2.2.1⟩
          subst this
          exact spec_add_eq b x y (hst b) (d2 b)
        · rw [c3] at d3
          simp [iTup] at d3
      rcases fin_both (a := x.Num) (c := c) (E := x.Exp) ⟨x2, x3⟩ with ⟨r1, z, z1, z2, z3⟩ | ⟨r1, z1⟩
      · exact .inl ⟨z, z1, fun b => by rw [hs]; exact z2 b, by rw [hc, r1]; exact z3⟩
      · refine .inr ⟨fun b => ?_, by rw [hc, r1]; rfl⟩
        obtain ⟨z, z2, z3⟩ := z1 b
        exact ⟨z, z2, by rw [hs]; exact z3⟩
    · have hc := hcm (raised_of c3) c2
      refine .inr ⟨fun b => ?_, by rw [hc]; rfl⟩
      rcases hr b with ⟨c', d1, d2, d3⟩ | ⟨d1, _⟩
      · rw [c3] at d3; simp [iTup] at d3
      · obtain ⟨c', _, d5⟩ := d1 b
        obtain ⟨z, z2, z3⟩ := fin_bad x.Num c' (E := x.Exp) ⟨x2, x3⟩
        exact ⟨z, z2, by rw [spec_add_eq b x y (hst b) d5]; exact z3⟩

def DM (x y : TDyadic) : Option TDyadic := (F_impl_MulDyadic x y).bind fun p => if p.2 then some p.1 else none
def DA (x y : TDyadic) : Option TDyadic := (F_impl_AddDyadic x y).bind fun p => if p.2 then some p.1 else none
/-- An answer of the program: the number, or zero and false. -/
def dR (o : Option TDyadic) : TDyadic × Bool := match o with | some z => (z, true) | none => (dZero, false)
/-- The specification's step f, from whatever flag, ends in the number o, the flag as it was; or, if there is none, in some number and the flag set. -/
def SP {α : Type} (f : Tl2C → Option (α × Tl2C)) (G : α → Prop) (o : Option α) : Prop :=
  ∀ b, ∃ z b', f (cB b) = some (z, cB b') ∧ G z ∧ ((o = some z ∧ b' = b) ∨ (o = none ∧ b' = true))
theorem SP.bind {α β : Type} {f : Tl2C → Option (α × Tl2C)} {G : α → Prop} {o : Option α} (hf : SP f G o) {h : α → Tl2C → Option (β × Tl2C)} {G' : β → Prop} {o' : α → Option β}
    (hh : ∀ z, G z → SP (h z) G' (o' z)) : SP (fun c => (f c).bind fun p => h p.1 p.2) G' (o.bind o') := fun b => by
  obtain ⟨z, b', h1, h2, h3⟩ := hf b
  obtain ⟨z', b'', h4, h5, h6⟩ := hh z h2 b'
  refine ⟨z', b'', by simp only [h1, Option.bind_some]; exact h4, h5, ?_⟩
  rcases h3 with ⟨rfl, rfl⟩ | ⟨rfl, rfl⟩
  · simpa using h6
  · rcases h6 with ⟨_, h6⟩ | ⟨_, h6⟩
    · exact .inr ⟨rfl, h6⟩
    · exact .inr ⟨rfl, h6⟩
theorem SP.pure {α : Type} {G : α → Prop} {z : α} (h : G z) : SP (fun c => some (z, c)) G (some z) := fun b => ⟨z, b, rfl, h, .inl ⟨rfl, rfl⟩⟩
theorem SP.map {α β : Type} {f : Tl2C → Option (α × Tl2C)} {G : α → Prop} {o : Option α} (hf : SP f G o) {g : α → β} {G' : β → Prop} (hg : ∀ z, G z → G' (g z)) : SP (fun c => (f c).bind fun p => some (g p.1, p.2)) G' (o.map g) := by
  have := hf.bind (h := fun z c => some (g z, c)) (o' := fun z => some (g z)) (fun z hz => SP.pure (hg z hz))
  rwa [Option.map_eq_bind]
theorem spM {x y : TDyadic} (hx : dOk x = true) (hy : dOk y = true) : SP (fun c => F_spec_l2C_mul c x y) (fun z => dOk z = true) (DM x y) := fun b => by
  unfold DM
  rcases mul_both hx hy with ⟨z, h1, h2, h3⟩ | ⟨h1, h2⟩
  · exact ⟨z, b, h2 b, h1, .inl ⟨by rw [h3]; rfl, rfl⟩⟩
  · obtain ⟨z, h3, h4⟩ := h1 b
    exact ⟨z, true, h4, h3, .inr ⟨by rw [h2]; rfl, rfl⟩⟩
theorem spA {x y : TDyadic} (hx : dOk x = true) (hy : dOk y = true) : SP (fun c => F_spec_l2C_add c x y) (fun z => dOk z = true) (DA x y) := fun b => by
  unfold DA
  rcases add_both hx hy with ⟨z, h1, h2, h3⟩ | ⟨h1, h2⟩
  · exact ⟨z, b, h2 b, h1, .inl ⟨by rw [h3]; rfl, rfl⟩⟩
  · obtain ⟨z, h3, h4⟩ := h1 b
    exact ⟨z, true, h4, h3, .inr ⟨by rw [h2]; rfl, rfl⟩⟩
theorem imM {x y : TDyadic} (hx : dOk x = true) (hy : dOk y = true) : F_impl_MulDyadic x y = some (dR (DM x y)) := by
  unfold DM
  rcases mul_both hx hy with ⟨z, h1, h2, h3⟩ | ⟨h1, h2⟩
  · rw [h3]; rfl
  · rw [h2]; rfl
theorem imA {x y : TDyadic} (hx : dOk x = true) (hy : dOk y = true) : F_impl_AddDyadic x y = some (dR (DA x y)) := by
  unfold DA
  rcases add_both hx hy with ⟨z, h1, h2, h3⟩ | ⟨h1, h2⟩
  · rw [h3]; rfl
  · rw [h2]; rfl
theorem dm_ok {x y z : TDyadic} (hx : dOk x = true) (hy : dOk y = true) (h : DM x y = some z) : dOk z = true := by
  unfold DM at h
  rcases mul_both hx hy with ⟨z', h1, h2, h3⟩ | ⟨h1, h2⟩
  · rw [h3] at h; simp at h; rw [← h]; exact h1
  · rw [h2] at h; simp at h
theorem da_ok {x y z : TDyadic} (hx : dOk x = true) (hy : dOk y = true) (h : DA x y = some z) : dOk z = true := by
  unfold DA at h
  rcases add_both hx hy with ⟨z', h1, h2, h3⟩ | ⟨h1, h2⟩
  · rw [h3] at h; simp at h; rw [← h]; exact h1
  · rw [h2] at h; simp at h
theorem dR_ok {o : Option TDyadic} (h : ∀ z, o = some z → dOk z = true) : dOk (dR o).1 = true := by
  cases o with
  | none => exact dZero_ok
  | some z => exact h z rfl
/-- What the specification holds (z, and its flag b') beside the number o (or none): the flag before is b; once it is set, it stays. -/
def SR {α : Type} (G : α → Prop) (o : Option α) (b : Bool) (z : α) (b' : Bool) : Prop := G z ∧ (b = true → b' = true) ∧ (b = false → (o = some z ∧ b' = false) ∨ (o = none ∧ b' = true))
theorem SR.bind {α β : Type} {G : α → Prop} {G' : β → Prop} {o : Option α} {o' : α → Option β} {b b' b'' : Bool} {z : α} {z' : β} (h1 : SR G o b z b') (h2 : SR G' (o' z) b' z' b'') : SR G' (o.bind o') b z' b'' := by
  refine ⟨h2.1, fun h => h2.2.1 (h1.2.1 h), fun h => ?_⟩
  rcases h1.2.2 h with ⟨rfl, rfl⟩ | ⟨rfl, rfl⟩
  · exact h2.2.2 rfl
  · exact .inr ⟨rfl, h2.2.1 rfl⟩
theorem SR.bad {α : Type} {G : α → Prop} {o : Option α} {z : α} {b' : Bool} (h : SR G o true z b') : b' = true := h.2.1 rfl
theorem SR.good {α : Type} {G : α → Prop} {o : Option α} {z : α} {b' : Bool} (h : SR G o false z b') : (o = some z ∧ b' = false) ∨ (o = none ∧ b' = true) := h.2.2 rfl
theorem SR.pure {α : Type} {G : α → Prop} {z : α} {b : Bool} (h : G z) : SR G (some z) b z b := ⟨h, id, fun hb => .inl ⟨rfl, hb⟩⟩
theorem SR.mono {α : Type} {G G' : α → Prop} {o : Option α} {b b' : Bool} {z : α} (h : SR G o b z b') (hg : G z → G' z) : SR G' o b z b' := ⟨hg h.1, h.2⟩
theorem SR.map {α β : Type} {G : α → Prop} {G' : β → Prop} {o : Option α} {b b' : Bool} {z : α} (h : SR G o b z b') (g : α → β) (hg : G z → G' (g z)) : SR G' (o.map g) b (g z) b' := by
  refine ⟨hg h.1, h.2.1, fun hb => ?_⟩
  rcases h.2.2 hb with ⟨rfl, h2⟩ | ⟨rfl, h2⟩
  · exact .inl ⟨rfl, h2⟩
  · exact .inr ⟨rfl, h2⟩
theorem sr_of {α : Type} {f : Tl2C → Option (α × Tl2C)} {G : α → Prop} {o : Option α} (h : SP f G o) (b : Bool) : ∃ z b', f (cB b) = some (z, cB b') ∧ SR G o b z b' := by
  obtain ⟨z, b', h1, h2, h3⟩ := h b
  refine ⟨z, b', h1, h2, fun hb => ?_, fun hb => ?_⟩
  · rcases h3 with ⟨_, h3⟩ | ⟨_, h3⟩
    · exact h3.trans hb
    · exact h3
  · rcases h3 with ⟨h3, h4⟩ | ⟨h3, h4⟩
    · exact .inl ⟨h3, h4.trans hb⟩
    · exact .inr ⟨h3, h4⟩
theorem srM {x y : TDyadic} (hx : dOk x = true) (hy : dOk y = true) (b : Bool) : ∃ z b', F_spec_l2C_mul (cB b) x y = some (z, cB b') ∧ SR (fun z => dOk z = true) (DM x y) b z b' := sr_of (spM hx hy) b
theorem srA {x y : TDyadic} (hx : dOk x = true) (hy : dOk y = true) (b : Bool) : ∃ z b', F_spec_l2C_add (cB b) x y = some (z, cB b') ∧ SR (fun z => dOk z = true) (DA x y) b z b' := sr_of (spA hx hy) b
theorem sr_it {β τ : Type} {f : Nat → τ → Option τ} {enc : Bool → β → τ} {G : Nat → β → Prop} {st : Nat → β → Option β} {n : Nat}
    (hf : ∀ k b s, k < n → G k s → ∃ z b', f k (enc b s) = some (enc b' z) ∧ SR (G (k + 1)) (st k s) b z b') :
    ∀ (m i : Nat) (s : β) (b : Bool), i + m ≤ n → G i s → ∃ z b', forN f m i (enc b s) = some (enc b' z) ∧ SR (G (i + m)) (forN st m i s) b z b'
  | 0, i, s, b, _, hG => ⟨s, b, rfl, SR.pure hG⟩
  | m + 1, i, s, b, hm, hG => by
    obtain ⟨z, b', h1, h2⟩ := hf i b s (by omega) hG
    obtain ⟨z', b'', h3, h4⟩ := sr_it hf m (i + 1) z b' (by omega) h2.1
    rw [show i + 1 + m = i + (m + 1) by omega] at h4
    exact ⟨z', b'', by simp only [forN, h1, Option.bind_some]; exact h3, h2.bind h4⟩
/-- A loop of the specification that stops at its flag. -/
theorem sr_wh {β τ ρ : Type} {f : τ → Option (Ex τ ρ)} {enc : Bool → β → Nat → τ} {G : β → Prop} {st : Nat → β → Option β} {n : Nat}
    (hb : ∀ k s, f (enc true s k) = some (.br (enc true s k))) (hn : ∀ s, f (enc false s n) = some (.br (enc false s n)))
    (hf : ∀ k s, k < n → G s → ∃ z b', f (enc false s k) = some (.nx (enc b' z (k + 1))) ∧ SR G (st k s) false z b') :
    ∀ (q m i : Nat) (s : β) (b : Bool), i + m = n → m < q → G s → ∃ z b' k', whX f q (enc b s i) = some (.inl (enc b' z k')) ∧ SR G (forN st m i s) b z b'
  | 0, _, _, _, _, _, hq, _ => absurd hq (Nat.not_lt_zero _)
  | q + 1, m, i, s, true, _, _, hG => ⟨s, true, i, by simp only [whX, hb, Option.bind_some], hG, fun h => h, fun h => by cases h⟩
  | q + 1, 0, i, s, false, hm, _, hG => by
    have : i = n := by omega
    subst this
    exact ⟨s, false, i, by simp only [whX, hn, Option.bind_some], SR.pure hG⟩
  | q + 1, m + 1, i, s, false, hm, hq, hG => by
    obtain ⟨z, b', h1, h2⟩ := hf i s (by omega) hG
    obtain ⟨z', b'', k', h3, h4⟩ := sr_wh hb hn hf q m (i + 1) z b' (by omega) (by omega) h2.1
    exact ⟨z', b'', k', by simp only [whX, h1, Option.bind_some]; exact h3, h2.bind h4⟩
/-- What a loop that may leave the function ends in. -/
def exO {β τ ρ : Type} (enc : β → τ) (R : ρ) (o : Option β) : τ ⊕ ρ := match o with | some z => .inl (enc z) | none => .inr R
def nxO {β τ ρ : Type} (enc : β → τ) (R : ρ) (o : Option β) : Ex τ ρ := match o with | some z => .nx (enc z) | none => .rt R
theorem im_it {β τ ρ : Type} {g : Nat → τ → Option (Ex τ ρ)} {enc : β → τ} {G : Nat → β → Prop} {st : Nat → β → Option β} {R : ρ} {n : Nat}
    (hg : ∀ k s, k < n → G k s → g k (enc s) = some (nxO enc R (st k s)) ∧ ∀ z, st k s = some z → G (k + 1) z) :
    ∀ (m i : Nat) (s : β), i + m ≤ n → G i s → forX g m i (enc s) = some (exO enc R (forN st m i s)) ∧ ∀ z, forN st m i s = some z → G (i + m) z
  | 0, i, s, _, hG => ⟨rfl, fun z h => by cases h; exact hG⟩
  | m + 1, i, s, hm, hG => by
    obtain ⟨h1, h2⟩ := hg i s (by omega) hG
    cases hs : st i s with
    | none =>
      rw [hs] at h1
      refine ⟨by simp only [forX, h1, nxO, Option.bind_some, forN, hs, Option.bind_none, exO], fun z hz => ?_⟩
      simp only [forN, hs, Option.bind_none] at hz; cases hz
    | some z =>
      rw [hs] at h1
      obtain ⟨h3, h4⟩ := im_it hg m (i + 1) z (by omega) (h2 z hs)
      rw [show i + 1 + m = i + (m + 1) by omega] at h4
      exact ⟨by simp only [forX, h1, nxO, Option.bind_some, forN, hs]; exact h3, fun z' hz => h4 z' (by simpa only [forN, hs, Option.bind_some] using hz)⟩
theorem gI {l : List TDyadic} {x : Int} {n : Nat} (hx : x = (n : Int)) (hn : n < l.length) : getI l x = some (l.getD n dZero) := by
  subst hx; rw [getI_nat, List.getElem?_eq_getElem hn]; simp [hn]
theorem getD_ok {l : List TDyadic} (h : ∀ z ∈ l, dOk z = true) (n : Nat) : dOk (l.getD n dZero) = true := by
  rw [List.getD_eq_getElem?_getD]
  cases hx : l[n]? with
  | none => exact dZero_ok
  | some x => exact h x (List.mem_of_getElem? hx)
def sT (b : Bool) (s : TDyadic) : Bool × Int × Int × Int × Int × Int := (b, s.Num.A, s.Num.B, s.Num.C, s.Num.D, s.Exp)
def iT (s : TDyadic) : Int × Int × Int × Int × Int := (s.Num.A, s.Num.B, s.Num.C, s.Num.D, s.Exp)
/-- One more product onto a sum. -/
def dotS (X Y : Nat → TDyadic) (k : Nat) (s : TDyadic) : Option TDyadic := (DM (X k) (Y k)).bind fun p => DA s p
theorem dot_spec {X Y : Nat → TDyadic} (hX : ∀ k, dOk (X k) = true) (hY : ∀ k, dOk (Y k) = true) (k : Nat) (b : Bool) (s : TDyadic) (hs : dOk s = true) :
    ∃ z b', ((F_spec_l2C_mul (cB b) (X k) (Y k)).bind fun p => (F_spec_l2C_add p.2 s p.1).bind fun q => some (sT q.2.bad q.1)) = some (sT b' z) ∧ SR (fun z => dOk z = true) (dotS X Y k s) b z b' := by
  obtain ⟨z, b', h1, h2⟩ := srM (hX k) (hY k) b
  obtain ⟨z', b'', h3, h4⟩ := srA hs h2.1 b'
  exact ⟨z', b'', by simp only [h1, Option.bind_some, h3]; rfl, h2.bind h4⟩
theorem dot_impl {ρ : Type} {X Y : Nat → TDyadic} (hX : ∀ k, dOk (X k) = true) (hY : ∀ k, dOk (Y k) = true) (R : ρ) (k : Nat) (s : TDyadic) (hs : dOk s = true) :
    ((F_impl_MulDyadic (X k) (Y k)).bind fun p => (F_impl_AddDyadic s p.1).bind fun q => bif (!p.2) || (!q.2) then some (.rt R) else some (.nx (iT q.1))) = some (nxO iT R (dotS X Y k s)) ∧ ∀ z, dotS X Y k s = some z → dOk z = true := by
  unfold dotS
  rw [imM (hX k) (hY k)]
  have ho : dOk (dR (DM (X k) (Y k))).1 = true := dR_ok (fun z hz => dm_ok (hX k) (hY k) hz)
  simp only [Option.bind_some]
  rw [imA hs ho]
  simp only [Option.bind_some]
  cases hm : DM (X k) (Y k) with
  | none => exact ⟨rfl, fun z hz => by cases hz⟩
  | some p =>
    rw [hm] at ho
    simp only [dR, Option.bind_some] at ho ⊢
    cases ha : DA s p with
    | none => exact ⟨rfl, fun z hz => by cases hz⟩
    | some q => exact ⟨rfl, fun z hz => by cases hz; exact da_ok hs ho ha⟩
theorem rr_zero : rRoot rZero = rZero := by decide
theorem raise_zero {E : Int} (hE : E ≤ 60) : ∀ (k : Nat) (e : Int), 0 ≤ e → e ≤ E → (E - e).toNat < k → whX (F_impl_raised_l1 E) k (iTup rZero true e) = some (.inl (iTup rZero true E))
  | 0, _, _, _, hk => absurd hk (Nat.not_lt_zero _)
  | k + 1, e, h0, h1, hk => by
    have h := impl_raise_step (E := E) rZero_ok h0 (by omega) true
    by_cases hlt : e < E
    · rw [decide_eq_true hlt, rr_zero, rZero_ok] at h
      simp only [Bool.and_self, cond_true, if_true] at h
      simp only [whX, h, Option.bind_some]
      exact raise_zero hE k (e + 1) (by omega) (by omega) (by omega)
    · rw [decide_eq_false hlt] at h
      simp only [Bool.false_and, cond_false] at h
      have : e = E := by omega
      subst this
      simp only [whX, h, Option.bind_some]
theorem low_id {x : TDyadic} (h : dOk x = true) : F_impl_DyadicOf x.Num x.Exp = some (x, true) := by
  obtain ⟨h1, h2, h3⟩ := d_parts h
  have hl : F_impl_DyadicOf_l1 (x.Exp, x.Num.A, x.Num.B, x.Num.C, x.Num.D) = some (.br (x.Exp, x.Num.A, x.Num.B, x.Num.C, x.Num.D)) := by
    unfold F_impl_DyadicOf_l1
    simp only [impl_even, Option.bind_some, gb]
    unfold dOk at h
    simp only [Bool.and_eq_true, Bool.or_eq_true, beq_iff_eq, Bool.not_eq_true'] at h
    rcases h.2 with h | h
    · rw [decide_eq_false (show ¬ 0 < x.Exp by omega)]; rfl
    · have e : rEven (TRing.mk x.Num.A x.Num.B x.Num.C x.Num.D) = false := h
      rw [e]; cases decide (0 < x.Exp) <;> rfl
  unfold F_impl_DyadicOf F_impl_within
  simp only [impl_ring, h1, Option.bind_some, gb, Bool.not_true, Bool.not_false, cond_true, Bool.false_or]
  rw [decide_eq_true h2, decide_eq_true h3]
  simp only [Bool.and_self, Bool.not_true, cond_false]
  rw [show fuel = (fuel - 1) + 1 from rfl]
  simp only [whX, hl, Option.bind_some, orR]
theorem zero_add {x : TDyadic} (h : dOk x = true) : DA dZero x = some x := by
  obtain ⟨h1, h2, h3⟩ := d_parts h
  have hr := h1
  rw [rOk_iff] at hr
  have e : rAdd rZero x.Num = x.Num := by
    unfold rAdd F_spec_l1Add rZero
    simp only [Int.zero_add, Option.getD_some]
    rw [wr (a := x.Num.A) (by omega), wr (a := x.Num.B) (by omega), wr (a := x.Num.C) (by omega), wr (a := x.Num.D) (by omega)]
  have hE : (if dZero.Exp < x.Exp then x.Exp else dZero.Exp) = x.Exp := by
    show (if (0 : Int) < x.Exp then x.Exp else 0) = x.Exp
    split <;> omega
  have hst : F_impl_raised x x.Exp = some (x.Num, true) := by
    refine raised_of (e := x.Exp) ?_
    have := impl_raise_step (E := x.Exp) h1 h2 h3 true
    simp only [Int.lt_irrefl, decide_false, Bool.false_and, cond_false] at this
    rw [show fuel = (fuel - 1) + 1 from rfl]; simp only [whX, this, Option.bind_some]
  have hz : F_impl_raised dZero x.Exp = some (rZero, true) := raised_of (x := dZero) (raise_zero h3 fuel 0 (by omega) h2 (fuel_big (by omega)))
  have hc := comb_add dZero_ok h hE hz hst rZero_ok h1
  rw [e, h1] at hc
  simp only [Bool.and_self, cond_true, low_id h] at hc
  unfold DA
  rw [hc]; rfl
def okD (l : List TDyadic) : Prop := ∀ z ∈ l, dOk z = true
theorem okD_snoc {l : List TDyadic} {z : TDyadic} (hl : okD l) (hz : dOk z = true) : okD (l ++ [z]) := fun x hx => by
  rcases List.mem_append.1 hx with h | h
  · exact hl x h
  · simp only [List.mem_singleton] at h; subst h; exact hz
theorem dy_eq (x y : TDyadic) : (((x.Num.A == y.Num.A) && ((x.Num.B == y.Num.B) && ((x.Num.C == y.Num.C) && ((x.Num.D == y.Num.D) && true)))) && ((x.Exp == y.Exp) && true)) = decide (x = y) := by
  obtain ⟨⟨A, B, C, D⟩, e⟩ := x
  obtain ⟨⟨A', B', C', D'⟩, e'⟩ := y
  rw [Bool.eq_iff_iff]
  simp only [Bool.and_true, Bool.and_eq_true, beq_iff_eq, decide_eq_true_eq, TDyadic.mk.injEq, TRing.mk.injEq]
theorem bs {α : Type} {b : Bool} {x y : α} : (bif b then some x else some y) = some (bif b then x else y) := by cases b <;> rfl
theorem forX_same {α ρ : Type} [DecidableEq α] {f : Nat → Unit → Option (Ex Unit ρ)} {l l' : List α} {q : ρ} (hl : l.length = l'.length)
    (hf : ∀ i x y, l[i]? = some x → l'[i]? = some y → f i () = some (bif !decide (x = y) then .rt q else .nx ())) : forX f l.length 0 () = some (if l = l' then .inl () else .inr q) := by
  rcases forX_inv (f := f) (fun j _ => ∀ i, i < j → l[i]? = l'[i]?) (fun r => r = q ∧ l ≠ l') l.length 0 () (fun i hi => absurd hi (Nat.not_lt_zero _)) (fun j s _ hj hI => by
    have hj : j < l.length := by omega
    have h := hf j _ _ (List.getElem?_eq_getElem hj) (List.getElem?_eq_getElem (show j < l'.length by omega))
    by_cases he : l[j] = l'[j]'(by omega)
    · rw [decide_eq_true he] at h
      refine .inl ⟨(), h, fun i hi => ?_⟩
      rcases Nat.lt_succ_iff_lt_or_eq.1 hi with h' | rfl
      · exact hI i h'
      · rw [List.getElem?_eq_getElem hj, List.getElem?_eq_getElem (show i < l'.length by omega), he]
    · rw [decide_eq_false he] at h
      exact .inr ⟨q, h, rfl, fun e => he (by subst e; rfl)⟩) with ⟨⟨⟩, h1, h2⟩ | ⟨r, h1, rfl, h2⟩
  · rw [h1, if_pos]
    apply List.ext_getElem?
    intro i
    by_cases hi : i < l.length
    · exact h2 i (by omega)
    · rw [List.getElem?_eq_none (by omega), List.getElem?_eq_none (by omega)]
  · rw [h1, if_neg h2]
def dOne : TDyadic := TDyadic.mk (TRing.mk 1 0 0 0) 0
theorem index_eq {l : List TDyadic} {f : TDyadic → Option Bool} {p : TDyadic → Bool} (hl : l.length ≤ 9223372036854775807) (hf : ∀ x, f x = some (p x)) :
    ∃ i, F_slices_IndexFunc_impl_Dyadic_impl_Dyadic l f = some i ∧ decide (0 ≤ i) = l.any p := by
  unfold F_slices_IndexFunc_impl_Dyadic_impl_Dyadic
  rw [chk_t hl]
  rcases forX_any (f := F_slices_IndexFunc_impl_Dyadic_impl_Dyadic_l1 l f) (l := l) (p := p) (q := fun i => (i : Int)) (fun i x hx => by
    unfold F_slices_IndexFunc_impl_Dyadic_impl_Dyadic_l1
    simp only [getI_nat, hx, Option.bind_some, hf, bs]) with ⟨h1, h2⟩ | ⟨h1, i, _, h2⟩
  · rw [h2, h1]; exact ⟨-1, rfl, by decide⟩
  · rw [h2, h1]; exact ⟨i, rfl, by simp⟩
theorem contains_eq {l : List TDyadic} {f : TDyadic → Option Bool} {p : TDyadic → Bool} (hl : l.length ≤ 9223372036854775807) (hf : ∀ x, f x = some (p x)) :
    F_slices_ContainsFunc_impl_Dyadic_impl_Dyadic l f = some (l.any p) := by
  unfold F_slices_ContainsFunc_impl_Dyadic_impl_Dyadic
  obtain ⟨i, h1, h2⟩ := index_eq hl hf
  rw [h1]; simp only [Option.bind_some, h2]
theorem any_not_all {l : List TDyadic} {p : TDyadic → Bool} : (l.any fun x => !p x) = !l.all p := by
  induction l with
  | nil => rfl
  | cons x l ih => simp only [List.any_cons, List.all_cons, ih, Bool.not_and]
def dimB (n : Int) : Bool := [1, 2, 4, 8, 16, 32].any fun x => x == n
theorem dim_le {n : Int} (h : dimB n = true) : 1 ≤ n ∧ n ≤ 32 := by
  unfold dimB at h
  simp only [List.any_cons, List.any_nil, Bool.or_false, Bool.or_eq_true, beq_iff_eq] at h
  omega
theorem spec_dim (n : Int) : F_spec_l3Dim n = some (dimB n) := by
  unfold F_spec_l3Dim F_spec_l1Has
  rw [chk_t (by simp)]
  rcases forX_any (f := F_spec_l1Has_l1 [1, 2, 4, 8, 16, 32] n) (l := [1, 2, 4, 8, 16, 32]) (p := fun x => x == n) (q := fun _ => true) (fun i x hx => by
    unfold F_spec_l1Has_l1; simp only [getI_nat, hx, Option.bind_some, bs]) with ⟨h1, h2⟩ | ⟨h1, i, _, h2⟩
  · rw [h2]; unfold dimB; rw [h1]; rfl
  · rw [h2]; unfold dimB; rw [h1]; rfl
theorem dim_small : ∀ k : Fin 33, 1 ≤ k.val → (((decide ((1 : Int) ≤ (k.val : Int))) && (decide ((k.val : Int) ≤ 32))) && ((bits .and .i64 (k.val : Int) (IntKind.i64.wrap ((k.val : Int) - 1))) == 0)) = dimB (k.val : Int) := by decide +kernel
theorem impl_dim (n : Int) : F_impl_isDim n = some (dimB n) := by
  unfold F_impl_isDim F_impl_within
  simp only [Option.bind_some]
  by_cases h : 1 ≤ n ∧ n ≤ 32
  · obtain ⟨k, rfl⟩ : ∃ k : Nat, n = k := ⟨n.toNat, by omega⟩
    exact congrArg some (dim_small ⟨k, by omega⟩ (by simp only; omega))
  · have : dimB n = false := by
      cases hd : dimB n with
      | false => rfl
      | true => exact absurd (dim_le hd) h
    rw [this]
    by_cases h1 : 1 ≤ n
    · rw [decide_eq_false (show ¬ n ≤ 32 by omega)]; simp
    · rw [decide_eq_false h1]; simp
/-- A matrix that is taken. -/
def mOk (m : TMatrix) : Bool := dimB m.Rows && dimB m.Cols && ((m.Cells.length : Int) == m.Rows * m.Cols) && m.Cells.all dOk
theorem mul_le32 {a b : Int} (ha : 1 ≤ a ∧ a ≤ 32) (hb : 1 ≤ b ∧ b ≤ 32) : 0 ≤ a * b ∧ a * b ≤ 1024 := by
  refine ⟨Int.mul_nonneg (by omega) (by omega), ?_⟩
  have := Int.mul_le_mul ha.2 hb.2 (by omega) (by decide : (0 : Int) ≤ 32)
  omega
theorem spec_mgood (m : TMatrix) (hl : m.Cells.length ≤ 9223372036854775807) : F_spec_l3Good m = some (mOk m) := by
  unfold F_spec_l3Good mOk
  rw [spec_dim, spec_dim]
  cases h1 : dimB m.Rows with
  | false => rfl
  | true =>
    cases h2 : dimB m.Cols with
    | false => rfl
    | true =>
      have := mul_le32 (dim_le h1) (dim_le h2)
      simp only [Option.bind_some, gb, Bool.not_true, Bool.not_false, cond_true, Bool.or_self, Bool.false_or, Bool.and_self, Bool.true_and]
      rw [wr (a := m.Rows * m.Cols) (by omega)]
      simp only [bne]
      cases h3 : (m.Cells.length : Int) == m.Rows * m.Cols with
      | false => rfl
      | true =>
        simp only [Bool.not_true, cond_false, Bool.true_and]
        rw [chk_t hl]
        rcases forX_any (f := F_spec_l3Good_l1 m) (l := m.Cells) (p := fun x => !dOk x) (q := fun _ => false) (fun i x hx => by
          unfold F_spec_l3Good_l1; simp only [getI_nat, hx, Option.bind_some, spec_dyadic, bs]) with ⟨q1, q2⟩ | ⟨q1, i, _, q2⟩
        · rw [q2]; rw [any_not_all] at q1; simp only [Option.bind_some, orR]; cases hh : m.Cells.all dOk
          · rw [hh] at q1; cases q1
          · rfl
        · rw [q2]; rw [any_not_all] at q1; simp only [Option.bind_some, orR]; cases hh : m.Cells.all dOk
          · rfl
          · rw [hh] at q1; cases q1
theorem impl_mgood (m : TMatrix) (hl : m.Cells.length ≤ 9223372036854775807) : F_impl_IsValidMatrix m = some (mOk m) := by
  unfold F_impl_IsValidMatrix mOk
  rw [impl_dim, impl_dim]
  cases h1 : dimB m.Rows with
  | false => rfl
  | true =>
    cases h2 : dimB m.Cols with
    | false => rfl
    | true =>
      have := mul_le32 (dim_le h1) (dim_le h2)
      simp only [Option.bind_some, gb, cond_true, Bool.and_self, Bool.true_and]
      rw [wr (a := m.Rows * m.Cols) (by omega)]
      cases h3 : (m.Cells.length : Int) == m.Rows * m.Cols with
      | false => rfl
      | true =>
        simp only [cond_true]
        rw [contains_eq (p := fun x => !dOk x) hl (fun x => by unfold F_impl_IsValidMatrix_1; simp only [impl_dyadic, Option.bind_some]), any_not_all]
        simp only [Option.bind_some, Bool.not_not, Bool.true_and]
theorem m_parts {m : TMatrix} (h : mOk m = true) : ∃ (R C : Nat) (l : List TDyadic), m = TMatrix.mk R C l ∧ dimB R = true ∧ dimB C = true ∧ (1 ≤ R ∧ R ≤ 32) ∧ (1 ≤ C ∧ C ≤ 32) ∧ l.length = R * C ∧ okD l := by
  obtain ⟨r, c, l⟩ := m
  unfold mOk at h
  simp only [Bool.and_eq_true, beq_iff_eq] at h
  obtain ⟨⟨⟨h1, h2⟩, h3⟩, h4⟩ := h
  have d1 := dim_le h1
  have d2 := dim_le h2
  obtain ⟨R, rfl⟩ : ∃ k : Nat, r = k := ⟨r.toNat, by omega⟩
  obtain ⟨C, rfl⟩ : ∃ k : Nat, c = k := ⟨c.toNat, by omega⟩
  exact ⟨R, C, l, rfl, h1, h2, by omega, by omega, by exact_mod_cast h3, fun z hz => List.all_eq_true.1 h4 z hz⟩
theorem m_make {R C : Nat} {l : List TDyadic} (h1 : dimB R = true) (h2 : dimB C = true) (h3 : l.length = R * C) (h4 : okD l) : mOk (TMatrix.mk R C l) = true := by
  unfold mOk
  simp only [h1, h2, Bool.and_self, Bool.true_and, Bool.and_eq_true, beq_iff_eq]
  exact ⟨by rw [h3]; push_cast; rfl, List.all_eq_true.2 h4⟩
theorem ix_lt {R C i j : Nat} (hi : i < R) (hj : j < C) : i * C + j < R * C := by
  have : (i + 1) * C ≤ R * C := Nat.mul_le_mul_right _ hi
  rw [Nat.add_mul] at this; omega
theorem ix {R C i j : Nat} (hi : i < R) (hj : j < C) (hR : R ≤ 32) (hC : C ≤ 32) : IntKind.i64.wrap (IntKind.i64.wrap ((i : Int) * (C : Int)) + (j : Int)) = ((i * C + j : Nat) : Int) := by
  have h1 := ix_lt hi hj
  have h2 : R * C ≤ 32 * 32 := Nat.mul_le_mul hR hC
  have e : (i : Int) * (C : Int) = ((i * C : Nat) : Int) := by push_cast; rfl
  rw [e, wr (a := ((i * C : Nat) : Int)) (by omega), wr (by omega)]
  omega
def gridO (cell : Nat → Nat → Option TDyadic) (R C : Nat) : Option (List TDyadic) := forN (fun i l => forN (fun j l => (cell i j).bind fun z => some (l ++ [z])) C 0 l) R 0 []
def mmCell (a b : List TDyadic) (K C i j : Nat) : Option TDyadic := forN (dotS (fun k => a.getD (i * K + k) dZero) (fun k => b.getD (k * C + j) dZero)) K 0 dZero
def mmO (a b : List TDyadic) (R K C : Nat) : Option (List TDyadic) := gridO (mmCell a b K C) R C
def wT (b : Bool) (s : TDyadic) (k : Nat) : Bool × Int × Int × Int × Int × Int × Int := (b, s.Num.A, s.Num.B, s.Num.C, s.Num.D, s.Exp, (k : Int))
theorem grid_len {R C i j : Nat} (hi : i < R) (hj : j < C) (hR : R ≤ 32) (hC : C ≤ 32) : i * C + j + 1 ≤ 1024 := by
  have h1 := ix_lt hi hj
  have h2 : R * C ≤ 32 * 32 := Nat.mul_le_mul hR hC
  omega
theorem sp_times {R K C : Nat} {la lb : List TDyadic} (ha : okD la) (hb : okD lb) (na : la.length = R * K) (nb : lb.length = K * C) (hR : R ≤ 32) (hK : K ≤ 32) (hC : C ≤ 32) (c : Bool) :
    ∃ l c', F_spec_l2C_times (cB c) (TMatrix.mk R K la) (TMatrix.mk K C lb) = some (TMatrix.mk R C l, cB c') ∧ SR (fun l => okD l ∧ l.length = R * C) (mmO la lb R K C) c l c' := by
  have l3 : ∀ (i j : Nat) (Cells : List TDyadic) (bad b0 : Bool), i < R → j < C → ∃ z b' k', whX (F_spec_l2C_times_l3 (TMatrix.mk R K la) Cells i (TMatrix.mk K C lb) j bad) fuel (wT b0 dZero 0) = some (.inl (wT b' z k')) ∧ SR (fun z => dOk z = true) (mmCell la lb K C i j) b0 z b' := fun i j Cells bad b0 hi hj => by
    refine sr_wh (enc := wT) (G := fun z => dOk z = true) (n := K) (fun k s => ?_) (fun s => ?_) (fun k s hk hs => ?_) fuel K 0 dZero b0 (by omega) (fuel_big (by omega)) dZero_ok
    · unfold F_spec_l2C_times_l3 wT
      simp only [Bool.not_true, Bool.and_false, cond_false]
    · unfold F_spec_l2C_times_l3 wT
      simp only [Int.lt_irrefl, decide_false, Bool.false_and, cond_false]
    · obtain ⟨z, b', h1, h2⟩ := dot_spec (X := fun k => la.getD (i * K + k) dZero) (Y := fun k => lb.getD (k * C + j) dZero) (fun _ => getD_ok ha _) (fun _ => getD_ok hb _) k false s hs
      obtain ⟨p, hp, h1⟩ := Option.bind_eq_some_iff.1 h1
      obtain ⟨q, hq, h1⟩ := Option.bind_eq_some_iff.1 h1
      refine ⟨z, b', ?_, h2⟩
      unfold F_spec_l2C_times_l3 wT
      simp only
      rw [decide_eq_true (show (k : Int) < (K : Int) by omega), ix hi hk hR hK, ix hk hj hK hC, gI (n := i * K + k) rfl (by rw [na]; exact ix_lt hi hk), gI (n := k * C + j) rfl (by rw [nb]; exact ix_lt hk hj)]
      simp only [Bool.not_false, Bool.and_self, cond_true, Option.bind_some]
      rw [show F_spec_l2C_mul (Tl2C.mk false) (la.getD (i * K + k) dZero) (lb.getD (k * C + j) dZero) = some p from hp]
      simp only [Option.bind_some]
      rw [show F_spec_l2C_add p.2 (TDyadic.mk (TRing.mk s.Num.A s.Num.B s.Num.C s.Num.D) s.Exp) p.1 = some q from hq]
      simp only [Option.bind_some]
      have := Option.some.inj h1
      simp only [sT, Prod.mk.injEq] at this
      obtain ⟨t0, t1, t2, t3, t4, t5⟩ := this
      rw [t0, t1, t2, t3, t4, t5, wr (a := (k : Int) + 1) (by omega)]
      rfl
  have l2 : ∀ (i : Nat) (Cells : List TDyadic) (bad b0 : Bool) (l : List TDyadic), i < R → okD l → l.length = i * C → ∃ z b', forN (F_spec_l2C_times_l2 (TMatrix.mk R K la) Cells i (TMatrix.mk K C lb) bad) C 0 (b0, l) = some (b', z) ∧ SR (fun z => okD z ∧ z.length = i * C + C) (forN (fun j l => (mmCell la lb K C i j).bind fun z => some (l ++ [z])) C 0 l) b0 z b' := fun i Cells bad b0 l hi hl hll => by
    have := sr_it (f := F_spec_l2C_times_l2 (TMatrix.mk R K la) Cells i (TMatrix.mk K C lb) bad) (enc := fun b (l : List TDyadic) => (b, l)) (G := fun j z => okD z ∧ z.length = i * C + j) (st := fun j l => (mmCell la lb K C i j).bind fun z => some (l ++ [z])) (n := C) (fun j b1 s hj hs => ?_) C 0 l b0 (by omega) ⟨hl, by omega⟩
    · rw [Nat.zero_add] at this; exact this
    · obtain ⟨z, b', k', h1, h2⟩ := l3 i j Cells bad b1 hi hj
      refine ⟨s ++ [z], b', ?_, h2.bind (SR.pure ⟨okD_snoc hs.1 h2.1, by simp; omega⟩)⟩
      unfold F_spec_l2C_times_l2
      simp only
      rw [show whX (F_spec_l2C_times_l3 (TMatrix.mk R K la) Cells i (TMatrix.mk K C lb) j bad) fuel (b1, 0, 0, 0, 0, 0, 0) = _ from h1]
      simp only [wT, Option.bind_some, orR]
      have := grid_len hi hj hR hC
      rw [chk_t (by omega)]
  obtain ⟨z, b', h1, h2⟩ := sr_it (f := F_spec_l2C_times_l1 (TMatrix.mk K C lb) (TMatrix.mk R K la)) (enc := fun b (l : List TDyadic) => (b, l)) (G := fun i z => okD z ∧ z.length = i * C) (st := fun i l => forN (fun j l => (mmCell la lb K C i j).bind fun z => some (l ++ [z])) C 0 l) (n := R) (fun i b1 s hi hs => by
    obtain ⟨z, b', h1, h2⟩ := l2 i s b1 b1 s hi hs.1 hs.2
    refine ⟨z, b', ?_, h2.mono (fun h => ⟨h.1, by rw [Nat.add_mul]; omega⟩)⟩
    unfold F_spec_l2C_times_l1
    simp only [Int.toNat_natCast]
    rw [chk_t (by omega), h1]; rfl) R 0 [] c (by omega) ⟨fun _ h => (by cases h), by simp⟩
  refine ⟨z, b', ?_, h2.mono (fun h => ⟨h.1, by simpa using h.2⟩)⟩
  unfold F_spec_l2C_times
  simp only [Int.toNat_natCast]
  rw [chk_t (by omega), show forN (F_spec_l2C_times_l1 (TMatrix.mk K C lb) (TMatrix.mk R K la)) R 0 ((cB c).bad, []) = _ from h1]
  rfl
def mR (R C : Nat) (o : Option (List TDyadic)) : TMatrix × Bool := match o with | some l => (TMatrix.mk R C l, true) | none => (TMatrix.mk 0 0 [], false)
theorem im_matrixOf {R C : Nat} {cell : Int → Int → Option (TDyadic × Bool)} {cellO : Nat → Nat → Option TDyadic} (dR' : dimB R = true) (dC : dimB C = true) (hR : R ≤ 32) (hC : C ≤ 32)
    (hcell : ∀ i j : Nat, i < R → j < C → cell i j = some (dR (cellO i j)) ∧ ∀ z, cellO i j = some z → dOk z = true) :
    F_impl_matrixOf R C cell = some (mR R C (gridO cellO R C)) ∧ ∀ l, gridO cellO R C = some l → okD l ∧ l.length = R * C := by
  have l2 : ∀ (i : Nat) (l : List TDyadic), i < R → okD l → l.length = i * C → forX (F_impl_matrixOf_l2 cell i) C 0 l = some (exO id (.rt (TMatrix.mk 0 0 [], false)) (forN (fun j l => (cellO i j).bind fun z => some (l ++ [z])) C 0 l)) ∧
      ∀ z, forN (fun j l => (cellO i j).bind fun z => some (l ++ [z])) C 0 l = some z → okD z ∧ z.length = i * C + C := fun i l hi hl hll => by
    have := im_it (g := F_impl_matrixOf_l2 cell i) (enc := id) (G := fun j z => okD z ∧ z.length = i * C + j) (st := fun j l => (cellO i j).bind fun z => some (l ++ [z])) (R := Ex.rt (TMatrix.mk 0 0 [], false)) (n := C) (fun j s hj hs => ?_) C 0 l (by omega) ⟨hl, by omega⟩
    · rw [Nat.zero_add] at this; exact this
    · obtain ⟨h1, h2⟩ := hcell i j hi hj
      unfold F_impl_matrixOf_l2
      simp only [id, h1, Option.bind_some]
      cases hc : cellO i j with
      | none => exact ⟨rfl, fun z hz => by cases hz⟩
      | some z =>
        simp only [dR, Bool.not_true, cond_false, Option.bind_some]
        have := grid_len hi hj hR hC
        rw [chk_t (by omega)]
        exact ⟨rfl, fun z' hz => by cases hz; exact ⟨okD_snoc hs.1 (h2 z hc), by simp; omega⟩⟩
  obtain ⟨h1, h2⟩ := im_it (g := F_impl_matrixOf_l1 C cell) (enc := id) (G := fun i z => okD z ∧ z.length = i * C) (st := fun i l => forN (fun j l => (cellO i j).bind fun z => some (l ++ [z])) C 0 l) (R := (TMatrix.mk 0 0 [], false)) (n := R) (fun i s hi hs => by
    obtain ⟨h1, h2⟩ := l2 i s hi hs.1 hs.2
    unfold F_impl_matrixOf_l1
    simp only [id, Int.toNat_natCast]
    rw [chk_t (by omega), h1]
    cases hc : forN (fun j l => (cellO i j).bind fun z => some (l ++ [z])) C 0 s with
    | none => exact ⟨rfl, fun z hz => by cases hz⟩
    | some z => exact ⟨rfl, fun z' hz => by cases hz; obtain ⟨q1, q2⟩ := h2 z hc; exact ⟨q1, by rw [Nat.add_mul]; omega⟩⟩) R 0 [] (by omega) ⟨fun _ h => (by cases h), by simp⟩
  refine ⟨?_, fun l hl => by have := h2 l hl; simpa using this⟩
  unfold F_impl_matrixOf
  rw [impl_dim, impl_dim, dR', dC]
  simp only [Option.bind_some, gb, Bool.not_true, Bool.not_false, cond_true, Bool.or_self, cond_false, Int.toNat_natCast]
  rw [chk_t (by omega), show forX (F_impl_matrixOf_l1 C cell) R 0 [] = _ from h1]
  unfold gridO
  cases forN (fun i l => forN (fun j l => (cellO i j).bind fun z => some (l ++ [z])) C 0 l) R 0 [] <;> rfl
theorem im_at {R C : Nat} {l : List TDyadic} {i j : Nat} (hi : i < R) (hj : j < C) (hR : R ≤ 32) (hC : C ≤ 32) (hl : l.length = R * C) : F_impl_Matrix_at (TMatrix.mk R C l) i j = some (l.getD (i * C + j) dZero) := by
  unfold F_impl_Matrix_at
  simp only
  rw [ix hi hj hR hC, gI (n := i * C + j) rfl (by rw [hl]; exact ix_lt hi hj)]
  rfl
theorem im_mul {R K C : Nat} {la lb : List TDyadic} (ma : mOk (TMatrix.mk R K la) = true) (mb : mOk (TMatrix.mk K C lb) = true) :
    F_impl_MulMatrix (TMatrix.mk R K la) (TMatrix.mk K C lb) = some (mR R C (mmO la lb R K C)) ∧ ∀ l, mmO la lb R K C = some l → okD l ∧ l.length = R * C := by
  obtain ⟨R', K', la', e, a1, a2, a3, a4, a5, a6⟩ := m_parts ma
  obtain ⟨h, h', rfl⟩ := TMatrix.mk.inj e
  obtain rfl : R = R' := by omega
  obtain rfl : K = K' := by omega
  obtain ⟨K', C', lb', e, b1, b2, b3, b4, b5, b6⟩ := m_parts mb
  obtain ⟨h, h', rfl⟩ := TMatrix.mk.inj e
  obtain rfl : K = K' := by omega
  obtain rfl : C = C' := by omega
  have l5 : la.length ≤ 1024 := by rw [a5]; exact Nat.mul_le_mul a3.2 a4.2
  have l6 : lb.length ≤ 1024 := by rw [b5]; exact Nat.mul_le_mul b3.2 b4.2
  have hc : ∀ i j : Nat, i < R → j < C → F_impl_MulMatrix_1 i j (TMatrix.mk R K la) (TMatrix.mk K C lb) = some (dR (mmCell la lb K C i j)) ∧ ∀ z, mmCell la lb K C i j = some z → dOk z = true := fun i j hi hj => by
    obtain ⟨h1, h2⟩ := im_it (g := F_impl_MulMatrix_1_l1 (TMatrix.mk R K la) i (TMatrix.mk K C lb) j) (enc := iT) (G := fun _ z => dOk z = true) (st := dotS (fun k => la.getD (i * K + k) dZero) (fun k => lb.getD (k * C + j) dZero)) (R := (dZero, false)) (n := K) (fun k s hk hs => by
      have := dot_impl (X := fun k => la.getD (i * K + k) dZero) (Y := fun k => lb.getD (k * C + j) dZero) (fun _ => getD_ok a6 _) (fun _ => getD_ok b6 _) (dZero, false) k s hs
      refine ⟨?_, this.2⟩
      rw [← this.1]
      unfold F_impl_MulMatrix_1_l1 iT
      simp only
      rw [im_at hi hk a3.2 a4.2 a5, im_at hk hj b3.2 b4.2 b5]
      rfl) K 0 dZero (by omega) dZero_ok
    refine ⟨?_, h2⟩
    unfold F_impl_MulMatrix_1
    simp only [Int.toNat_natCast]
    rw [chk_t (by omega), show forX (F_impl_MulMatrix_1_l1 (TMatrix.mk R K la) i (TMatrix.mk K C lb) j) K 0 (0, 0, 0, 0, 0) = _ from h1]
    unfold mmCell
    cases forN (dotS (fun k => la.getD (i * K + k) dZero) (fun k => lb.getD (k * C + j) dZero)) K 0 dZero <;> rfl
  obtain ⟨h1, h2⟩ := im_matrixOf (cell := fun x_0 x_1 => F_impl_MulMatrix_1 x_0 x_1 (TMatrix.mk R K la) (TMatrix.mk K C lb)) (cellO := mmCell la lb K C) a1 b2 a3.2 b4.2 hc
  refine ⟨?_, h2⟩
  unfold F_impl_MulMatrix
  rw [impl_mgood _ (by simp only; omega), impl_mgood _ (by simp only; omega), ma, mb]
  simp only [Option.bind_some, gb, Bool.not_true, Bool.not_false, cond_true, Bool.or_self, Bool.false_or, bne_self_eq_false, cond_false]
  rw [h1]; rfl

def dConj (x : TDyadic) : TDyadic := TDyadic.mk (TRing.mk x.Num.A (-x.Num.D) (-x.Num.C) (-x.Num.B)) x.Exp
theorem tm2 (a : Int) : (Int.tmod a 2 == 0) = decide ((2 : Int) ∣ a) := by
  rw [Bool.eq_iff_iff, beq_iff_eq, decide_eq_true_eq, Int.dvd_iff_tmod_eq_zero]
theorem conj_ok {x : TDyadic} (h : dOk x = true) : dOk (dConj x) = true := by
  have hr := (d_parts h).1
  have hr2 := hr
  rw [rOk_iff] at hr
  unfold dOk at h ⊢
  have e1 : rOk (dConj x).Num = true := by rw [rOk_iff]; unfold dConj; simp only; omega
  have e2 : rEven (dConj x).Num = rEven x.Num := by
    unfold rEven dConj
    simp only
    rw [wr (a := x.Num.A + -x.Num.C) (by omega), wr (a := -x.Num.D + -x.Num.B) (by omega), wr (a := x.Num.A + x.Num.C) (by omega), wr (a := x.Num.B + x.Num.D) (by omega), tm2, tm2, tm2, tm2]
    congr 1 <;> (rw [Bool.eq_iff_iff, decide_eq_true_eq, decide_eq_true_eq]; omega)
  rw [e1, e2]
  rw [hr2] at h
  exact h
theorem spec_conj {x : TDyadic} (h : dOk x = true) : F_spec_l2Conj x = some (dConj x) := by
  have hr := (d_parts h).1
  rw [rOk_iff] at hr
  unfold F_spec_l2Conj F_spec_l1Conj
  rw [wr (a := -x.Num.D) (by omega), wr (a := -x.Num.C) (by omega), wr (a := -x.Num.B) (by omega)]
  rfl
theorem impl_conj {x : TDyadic} (h : dOk x = true) : F_impl_ConjDyadic x = some (dConj x, true) := by
  have h1 := (d_parts h).1
  have h2 := (d_parts (conj_ok h)).1
  have hr := h1
  rw [rOk_iff] at hr
  unfold F_impl_ConjDyadic F_impl_Conjugate
  rw [impl_dyadic, h, wr (a := -x.Num.D) (by omega), wr (a := -x.Num.C) (by omega), wr (a := -x.Num.B) (by omega), ring_if _ _ (by simp)]
  unfold dConj at h2
  simp only at h2
  simp only [List.all_cons, List.all_nil, h1, h2, Bool.and_self, if_true, Option.bind_some, Bool.not_true, cond_false]
  rfl
theorem forN_eq {σ : Type} {f g : Nat → σ → Option σ} {G : Nat → σ → Prop} {n : Nat} (h : ∀ k s, k < n → G k s → f k s = g k s ∧ ∀ z, g k s = some z → G (k + 1) z) :
    ∀ (m i : Nat) (s : σ), i + m ≤ n → G i s → forN f m i s = forN g m i s
  | 0, _, _, _, _ => rfl
  | m + 1, i, s, hm, hG => by
    obtain ⟨h1, h2⟩ := h i s (by omega) hG
    simp only [forN, h1]
    cases hs : g i s with
    | none => rfl
    | some z => simp only [Option.bind_some]; exact forN_eq h m (i + 1) z (by omega) (h2 z hs)
def adO (l : List TDyadic) (R C : Nat) : Option (List TDyadic) := gridO (fun i j => some (dConj (l.getD (j * C + i) dZero))) C R
/-- A row of cells that are all there. -/
theorem grid_pure {f : Nat → Nat → TDyadic} (R C : Nat) (hf : ∀ i j, i < R → j < C → dOk (f i j) = true) : ∃ l, gridO (fun i j => some (f i j)) R C = some l ∧ okD l ∧ l.length = R * C := by
  obtain ⟨l, h1, h2, h3⟩ := forN_inv (f := fun i l => forN (fun j l => (some (f i j)).bind fun z => some (l ++ [z])) C 0 l) (fun i z => okD z ∧ z.length = i * C) R 0 [] ⟨fun _ h => (by cases h), by simp⟩ (fun i s _ hi hs => by
    obtain ⟨l, h1, h2, h3⟩ := forN_inv (f := fun j l => (some (f i j)).bind fun z => some (l ++ [z])) (fun j z => okD z ∧ z.length = i * C + j) C 0 s ⟨hs.1, by rw [hs.2]; rfl⟩ (fun j s _ hj hs => ⟨_, rfl, okD_snoc hs.1 (hf i j (by omega) (by omega)), by simp [hs.2]; omega⟩)
    exact ⟨l, h1, h2, by rw [h3, Nat.add_mul]; omega⟩)
  exact ⟨l, h1, h2, by simpa using h3⟩
theorem spec_adj {R C : Nat} {l : List TDyadic} (hl : okD l) (ll : l.length = R * C) (hR : R ≤ 32) (hC : C ≤ 32) : F_spec_l3Adj (TMatrix.mk R C l) = (adO l R C).map (TMatrix.mk C R) := by
  unfold F_spec_l3Adj adO gridO
  simp only [Int.toNat_natCast]
  rw [chk_t (by omega)]
  have hin : ∀ (j : Nat) (s Cells : List TDyadic), j < C → s.length = j * R → forN (F_spec_l3Adj_l2 (TMatrix.mk R C l) Cells j) R 0 s = forN (fun i l' => (some (dConj (l.getD (i * C + j) dZero))).bind fun z => some (l' ++ [z])) R 0 s := fun j s Cells hj hs =>
    forN_eq (G := fun i (z : List TDyadic) => z.length = j * R + i) (n := R) (fun i z hi hz => by
      unfold F_spec_l3Adj_l2
      simp only
      rw [ix hi hj hR hC, gI (n := i * C + j) rfl (by rw [ll]; exact ix_lt hi hj)]
      simp only [Option.bind_some, spec_conj (getD_ok hl _)]
      have := grid_len hj hi hC hR
      rw [chk_t (by omega)]
      exact ⟨rfl, fun z' h => by cases h; simp [hz]; omega⟩) R 0 s (by omega) (by omega)
  rw [forN_eq (f := F_spec_l3Adj_l1 (TMatrix.mk R C l)) (g := fun j l' => forN (fun i l' => (some (dConj (l.getD (i * C + j) dZero))).bind fun z => some (l' ++ [z])) R 0 l') (G := fun j (z : List TDyadic) => z.length = j * R) (n := C) (fun j z hj hz => by
    unfold F_spec_l3Adj_l1
    simp only [Int.toNat_natCast]
    rw [chk_t (by omega), hin j z z hj hz]
    constructor
    · cases forN (fun i l' => (some (dConj (l.getD (i * C + j) dZero))).bind fun z => some (l' ++ [z])) R 0 z <;> rfl
    · intro z' h
      obtain ⟨l', h1, h2⟩ := forN_inv (f := fun i l' => (some (dConj (l.getD (i * C + j) dZero))).bind fun z => some (l' ++ [z])) (fun i w => w.length = j * R + i) R 0 z (by omega) (fun i s _ _ hs => ⟨_, rfl, by simp [hs]; omega⟩)
      rw [h1] at h; cases h
      rw [h2, Nat.add_mul]; omega) C 0 [] (by omega) (by simp)]
  cases forN (fun j l' => forN (fun i l' => (some (dConj (l.getD (i * C + j) dZero))).bind fun z => some (l' ++ [z])) R 0 l') C 0 [] <;> rfl
theorem impl_adj {R C : Nat} {l : List TDyadic} (hm : mOk (TMatrix.mk R C l) = true) : F_impl_Adjoint (TMatrix.mk R C l) = some (mR C R (adO l R C)) := by
  obtain ⟨R', C', l', e, a1, a2, a3, a4, a5, a6⟩ := m_parts hm
  obtain ⟨h, h', rfl⟩ := TMatrix.mk.inj e
  obtain rfl : R = R' := by omega
  obtain rfl : C = C' := by omega
  have l5 : l.length ≤ 1024 := by rw [a5]; exact Nat.mul_le_mul a3.2 a4.2
  unfold F_impl_Adjoint
  rw [impl_mgood _ (by simp only; omega), hm]
  simp only [Option.bind_some, Bool.not_true, cond_false]
  rw [(im_matrixOf (R := C) (C := R) a2 a1 a4.2 a3.2 (cellO := fun i j => some (dConj (l.getD (j * C + i) dZero))) (fun i j hi hj => by
    refine ⟨?_, fun z hz => by cases hz; exact conj_ok (getD_ok a6 _)⟩
    unfold F_impl_Adjoint_1
    rw [im_at hj hi a3.2 a4.2 a5]
    simp only [Option.bind_some, impl_conj (getD_ok a6 _)]
    rfl)).1]
  rfl
theorem adj_some {R C : Nat} {l : List TDyadic} (hl : okD l) : ∃ l', adO l R C = some l' ∧ okD l' ∧ l'.length = C * R := grid_pure C R (fun i j _ _ => conj_ok (getD_ok hl _))

def unitL (n : Nat) : List TDyadic := (List.range (n * n)).map fun p => if p / n = p % n then dOne else dZero
theorem unit_spec : ∀ n ∈ [1, 2, 4, 8, 16, 32], F_spec_l3Unit ((n : Nat) : Int) = some (TMatrix.mk (n : Nat) (n : Nat) (unitL n)) := by decide +kernel
theorem unit_impl : ∀ n ∈ [1, 2, 4, 8, 16, 32], F_impl_IdentityMatrix ((n : Nat) : Int) = some (TMatrix.mk (n : Nat) (n : Nat) (unitL n), true) := by decide +kernel
theorem dim_mem {n : Nat} (h : dimB (n : Int) = true) : n ∈ [1, 2, 4, 8, 16, 32] := by
  unfold dimB at h
  simp only [List.any_cons, List.any_nil, Bool.or_false, Bool.or_eq_true, beq_iff_eq] at h
  simp only [List.mem_cons, List.not_mem_nil, or_false]
  omega
theorem unit_len (n : Nat) : (unitL n).length = n * n := by simp [unitL]
theorem spec_meq {R C : Nat} {l l' : List TDyadic} (h : l.length = R * C) (h' : l'.length = R * C) (hR : R ≤ 32) (hC : C ≤ 32) : F_spec_EqualMatrices (TMatrix.mk R C l) (TMatrix.mk R C l') = some (decide (l = l')) := by
  have : R * C ≤ 32 * 32 := Nat.mul_le_mul hR hC
  unfold F_spec_EqualMatrices
  simp only [bne_self_eq_false, Bool.or_self, Bool.false_or, h, h', cond_false]
  rw [chk_t (by omega), ← h, forX_same (f := F_spec_EqualMatrices_l1 (TMatrix.mk R C l) (TMatrix.mk R C l')) (l := l) (l' := l') (q := false) (by omega) (fun i x y hx hy => by
    unfold F_spec_EqualMatrices_l1
    simp only [getI_nat, hx, hy, Option.bind_some, dy_eq, bs])]
  by_cases h : l = l'
  · rw [if_pos h, decide_eq_true h]; rfl
  · rw [if_neg h, decide_eq_false h]; rfl
theorem impl_leq {l l' : List TDyadic} (hl : l.length ≤ 9223372036854775807) : F_slices_Equal_impl_Dyadic_impl_Dyadic l l' = some (decide (l = l')) := by
  unfold F_slices_Equal_impl_Dyadic_impl_Dyadic
  by_cases hn : l.length = l'.length
  · have e : ((l.length : Int) != (l'.length : Int)) = false := by simp [hn]
    rw [e, cond_false, chk_t hl, forX_same (f := F_slices_Equal_impl_Dyadic_impl_Dyadic_l1 l l') (l := l) (l' := l') (q := false) hn (fun i x y hx hy => by
      unfold F_slices_Equal_impl_Dyadic_impl_Dyadic_l1
      simp only [getI_nat, hx, hy, Option.bind_some, dy_eq, bs])]
    by_cases h : l = l'
    · rw [if_pos h, decide_eq_true h]; rfl
    · rw [if_neg h, decide_eq_false h]; rfl
  · have e : ((l.length : Int) != (l'.length : Int)) = true := by simp; omega
    rw [e, decide_eq_false (fun h => hn (by rw [h]))]; rfl
theorem impl_meq {R C : Nat} {l l' : List TDyadic} (hl : l.length ≤ 9223372036854775807) : F_impl_EqualMatrices (TMatrix.mk R C l) (TMatrix.mk R C l') = some (decide (l = l')) := by
  unfold F_impl_EqualMatrices
  simp only [beq_self_eq_true, Bool.and_self, gb, cond_true, impl_leq hl, Option.bind_some, Bool.true_and]
theorem uni_both (m : TMatrix) (hl : m.Cells.length ≤ 9223372036854775807) : ∃ (u ok : Bool), F_spec_IsUnitary m = some (u, ok) ∧ F_impl_IsUnitary m = some (u, ok) ∧ (mOk m = false ∨ m.Rows ≠ m.Cols → u = false ∧ ok = false) := by
  unfold F_spec_IsUnitary F_impl_IsUnitary
  rw [spec_mgood m hl, impl_mgood m hl]
  cases hm : mOk m with
  | false => exact ⟨_, _, rfl, rfl, fun _ => ⟨rfl, rfl⟩⟩
  | true =>
    obtain ⟨R, C, l, rfl, d1, d2, b1, b2, ll, ol⟩ := m_parts hm
    by_cases h : R = C
    · subst h
      simp only [Option.bind_some, Bool.not_true, bne_self_eq_false, Bool.or_self, cond_false]
      obtain ⟨l', a1, a2, a3⟩ := adj_some (R := R) (C := R) ol
      rw [spec_adj ol ll b1.2 b1.2, impl_adj hm, a1]
      simp only [Option.map_some, Option.bind_some, mR]
      obtain ⟨x, c, e, g⟩ := sp_times (R := R) (K := R) (C := R) ol a2 ll a3 b1.2 b1.2 b1.2 false
      obtain ⟨i1, i2⟩ := im_mul hm (m_make d1 d1 a3 a2)
      rw [show F_spec_l2C_times (Tl2C.mk false) (TMatrix.mk R R l) (TMatrix.mk R R l') = _ from e, i1]
      rw [unit_spec R (dim_mem d1), unit_impl R (dim_mem d1)]
      have hb : R * R ≤ 32 * 32 := Nat.mul_le_mul b1.2 b1.2
      rcases g.good with ⟨p, rfl⟩ | ⟨p, rfl⟩
      · rw [p]
        simp only [mR, Option.bind_some, gb, cond_true, Bool.true_and]
        rw [show (cB false).bad = false from rfl, spec_meq g.1.2 (unit_len R) b1.2 b1.2, impl_meq (by rw [g.1.2]; omega)]
        exact ⟨_, _, rfl, rfl, fun h => by rcases h with h | h; exact absurd h (by simp); exact absurd rfl h⟩
      · rw [p]
        exact ⟨_, _, rfl, rfl, fun _ => ⟨rfl, rfl⟩⟩
    · have e : ((R : Int) != (C : Int)) = true := by simp; omega
      simp only [Option.bind_some, Bool.not_true, e, Bool.or_true, cond_true]
      exact ⟨_, _, rfl, rfl, fun _ => ⟨rfl, rfl⟩⟩
theorem one_both (m : TMatrix) (hl : m.Cells.length ≤ 9223372036854775807) : ∃ b, F_spec_l9Good m = some b ∧ F_impl_IsOneQubit m = some b ∧ (b = true → mOk m = true ∧ m.Rows = 2 ∧ m.Cols = 2) := by
  obtain ⟨u, ok, h1, h2, h3⟩ := uni_both m hl
  unfold F_spec_l9Good F_impl_IsOneQubit
  rw [h1, h2, impl_mgood m hl]
  simp only [Option.bind_some]
  cases hm : mOk m with
  | false =>
    obtain ⟨rfl, rfl⟩ := h3 (.inl hm)
    exact ⟨_, rfl, rfl, fun h => by cases h⟩
  | true =>
    by_cases hr : m.Rows = 2
    · by_cases hc : m.Cols = 2
      · have e1 : (m.Rows == 2) = true := by simp [hr]
        have e2 : (m.Rows != 2) = false := by simp [hr]
        have e3 : (m.Cols != 2) = false := by simp [hc]
        rw [e1, e2, e3]
        simp only [Bool.not_true, Bool.or_self, cond_false, Bool.and_true]
        exact ⟨_, rfl, rfl, fun _ => ⟨by first | rfl | trivial, hr, hc⟩⟩
      · obtain ⟨rfl, rfl⟩ := h3 (.inr (by omega))
        have e3 : (m.Cols != 2) = true := by simp [hc]
        rw [e3]
        simp only [Bool.or_true, cond_true, Bool.and_self, Bool.false_and]
        exact ⟨_, rfl, rfl, fun h => by cases h⟩
    · have e1 : (m.Rows == 2) = false := by simp [hr]
      have e2 : (m.Rows != 2) = true := by simp [hr]
      rw [e1, e2]
      simp only [Bool.or_true, Bool.true_or, cond_true, Bool.and_false]
      exact ⟨_, rfl, rfl, fun h => by cases h⟩
def dHalf : TDyadic := TDyadic.mk (TRing.mk 1 0 0 0) 2
theorem dHalf_ok : dOk dHalf = true := by decide
def pauL (i : Nat) : List TDyadic := ((F_spec_l9Pauli (i : Int)).getD (TMatrix.mk 0 0 [])).Cells
theorem pau_small : ∀ i : Fin 3, F_spec_l9Pauli (i.val : Int) = some (TMatrix.mk 2 2 (pauL i.val)) ∧ getI [2, 3, 4] (i.val : Int) = some ((i.val : Int) + 2) ∧ F_impl_GateMatrix 1 (TGate.mk ((i.val : Int) + 2) 0 0) = some (TMatrix.mk 2 2 (pauL i.val), true) ∧ (pauL i.val).length = 2 * 2 ∧ (pauL i.val).all dOk = true := by decide +kernel
theorem pau {i : Nat} (h : i < 3) : F_spec_l9Pauli (i : Int) = some (TMatrix.mk 2 2 (pauL i)) ∧ getI [2, 3, 4] (i : Int) = some ((i : Int) + 2) ∧ F_impl_GateMatrix 1 (TGate.mk ((i : Int) + 2) 0 0) = some (TMatrix.mk 2 2 (pauL i), true) ∧ (pauL i).length = 2 * 2 ∧ okD (pauL i) := by
  obtain ⟨h1, h2, h3, h4, h5⟩ := pau_small ⟨i, h⟩
  exact ⟨h1, h2, h3, h4, fun z hz => List.all_eq_true.1 h5 z hz⟩
def blO (l l' : List TDyadic) (i j : Nat) : Option TDyadic :=
  (mmO (pauL i) l 2 2 2).bind fun l1 => (mmO l1 (pauL j) 2 2 2).bind fun l2 => (mmO l2 l' 2 2 2).bind fun l3 => (DA (l3.getD 0 dZero) (l3.getD 3 dZero)).bind fun t => DM t dHalf
theorem bl_spec {l l' : List TDyadic} (ol : okD l) (ll : l.length = 2 * 2) (ol' : okD l') (ll' : l'.length = 2 * 2) (ha : F_spec_l3Adj (TMatrix.mk 2 2 l) = some (TMatrix.mk 2 2 l')) {i j : Nat} (hi : i < 3) (hj : j < 3) (Cells : List TDyadic) (bad b1 : Bool) (s : List TDyadic) (hs : s.length ≤ 9) :
    ∃ z b', F_spec_l9Bloch_l2 i (TMatrix.mk 2 2 l) Cells bad j (b1, s) = some (b', s ++ [z]) ∧ SR (fun z => dOk z = true) (blO l l' i j) b1 z b' := by
  obtain ⟨p1, _, _, p4, p5⟩ := pau hi
  obtain ⟨q1, _, _, q4, q5⟩ := pau hj
  obtain ⟨l1, c1, e1, g1⟩ := sp_times (R := 2) (K := 2) (C := 2) p5 ol p4 ll (by decide) (by decide) (by decide) b1
  obtain ⟨l2, c2, e2, g2⟩ := sp_times (R := 2) (K := 2) (C := 2) g1.1.1 q5 g1.1.2 q4 (by decide) (by decide) (by decide) c1
  obtain ⟨l3, c3, e3, g3⟩ := sp_times (R := 2) (K := 2) (C := 2) g2.1.1 ol' g2.1.2 ll' (by decide) (by decide) (by decide) c2
  obtain ⟨t, c4, e4, g4⟩ := srA (getD_ok g3.1.1 0) (getD_ok g3.1.1 3) c3
  obtain ⟨z, c5, e5, g5⟩ := srM g4.1 dHalf_ok c4
  refine ⟨z, c5, ?_, g1.bind (g2.bind (g3.bind (g4.bind g5)))⟩
  have hl3 := g3.1.2
  unfold F_spec_l9Bloch_l2
  simp only
  rw [p1]
  simp only [Option.bind_some]
  rw [show F_spec_l2C_times (Tl2C.mk b1) (TMatrix.mk 2 2 (pauL i)) (TMatrix.mk 2 2 l) = some (TMatrix.mk 2 2 l1, cB c1) from e1]
  simp only [Option.bind_some]
  rw [q1]
  simp only [Option.bind_some]
  rw [show F_spec_l2C_times (cB c1) (TMatrix.mk 2 2 l1) (TMatrix.mk 2 2 (pauL j)) = some (TMatrix.mk 2 2 l2, cB c2) from e2]
  simp only [Option.bind_some]
  rw [ha]
  simp only [Option.bind_some]
  rw [show F_spec_l2C_times (cB c2) (TMatrix.mk 2 2 l2) (TMatrix.mk 2 2 l') = some (TMatrix.mk 2 2 l3, cB c3) from e3]
  simp only [Option.bind_some]
  rw [gI (l := l3) (x := 0) (n := 0) rfl (by omega), gI (l := l3) (x := 3) (n := 3) rfl (by omega)]
  simp only [Option.bind_some]
  rw [e4]
  simp only [Option.bind_some]
  rw [show F_spec_l2C_mul (cB c4) t (TDyadic.mk (TRing.mk 1 0 0 0) 2) = some (z, cB c5) from e5]
  simp only [Option.bind_some]
  rw [chk_t (by omega)]
  rfl
theorem mul_bad (b : TMatrix) : F_impl_MulMatrix (TMatrix.mk 0 0 []) b = some (TMatrix.mk 0 0 [], false) := by
  unfold F_impl_MulMatrix
  rw [impl_mgood _ (by decide), show mOk (TMatrix.mk 0 0 []) = false by decide]
  rfl
theorem trace_bad : F_impl_TraceOf (TMatrix.mk 0 0 []) = some (dZero, false) := by
  unfold F_impl_TraceOf
  rw [impl_mgood _ (by decide), show mOk (TMatrix.mk 0 0 []) = false by decide]
  rfl
theorem two_dim : dimB ((2 : Nat) : Int) = true := by decide
theorem trace_two {l : List TDyadic} (ol : okD l) (ll : l.length = 2 * 2) : F_impl_TraceOf (TMatrix.mk 2 2 l) = some (dR (DA (l.getD 0 dZero) (l.getD 3 dZero))) := by
  have hm : mOk (TMatrix.mk 2 2 l) = true := m_make (R := 2) (C := 2) two_dim two_dim ll ol
  have h0 := getD_ok ol 0
  have h3 := getD_ok ol 3
  unfold F_impl_TraceOf
  rw [impl_mgood _ (by simp only; omega), hm]
  simp only [Option.bind_some, Bool.not_true, bne_self_eq_false, Bool.or_self, cond_false]
  have s0 : F_impl_TraceOf_l1 (TMatrix.mk 2 2 l) (0, 0, 0, 0, 0, true, 0) = some (.nx ((l.getD 0 dZero).Num.A, (l.getD 0 dZero).Num.B, (l.getD 0 dZero).Num.C, (l.getD 0 dZero).Num.D, (l.getD 0 dZero).Exp, true, 1)) := by
    unfold F_impl_TraceOf_l1
    simp only
    rw [show F_impl_Matrix_at (TMatrix.mk 2 2 l) 0 0 = some (l.getD 0 dZero) from im_at (R := 2) (C := 2) (i := 0) (j := 0) (by decide) (by decide) (by decide) (by decide) ll]
    rw [show (decide ((0 : Int) < 2) && true) = true by decide]
    simp only [cond_true, Option.bind_some]
    rw [show F_impl_AddDyadic (TDyadic.mk (TRing.mk 0 0 0 0) 0) (l.getD 0 dZero) = some (dR (DA dZero (l.getD 0 dZero))) from imA dZero_ok h0, zero_add h0]
    rfl
  have s1 : F_impl_TraceOf_l1 (TMatrix.mk 2 2 l) ((l.getD 0 dZero).Num.A, (l.getD 0 dZero).Num.B, (l.getD 0 dZero).Num.C, (l.getD 0 dZero).Num.D, (l.getD 0 dZero).Exp, true, 1) =
      some (.nx ((dR (DA (l.getD 0 dZero) (l.getD 3 dZero))).1.Num.A, (dR (DA (l.getD 0 dZero) (l.getD 3 dZero))).1.Num.B, (dR (DA (l.getD 0 dZero) (l.getD 3 dZero))).1.Num.C, (dR (DA (l.getD 0 dZero) (l.getD 3 dZero))).1.Num.D, (dR (DA (l.getD 0 dZero) (l.getD 3 dZero))).1.Exp, (dR (DA (l.getD 0 dZero) (l.getD 3 dZero))).2, 2)) := by
    unfold F_impl_TraceOf_l1
    simp only
    rw [show F_impl_Matrix_at (TMatrix.mk 2 2 l) 1 1 = some (l.getD 3 dZero) from im_at (R := 2) (C := 2) (i := 1) (j := 1) (by decide) (by decide) (by decide) (by decide) ll]
    rw [show (decide ((1 : Int) < 2) && true) = true by decide]
    simp only [cond_true, Option.bind_some]
    rw [show F_impl_AddDyadic (TDyadic.mk (TRing.mk (l.getD 0 dZero).Num.A (l.getD 0 dZero).Num.B (l.getD 0 dZero).Num.C (l.getD 0 dZero).Num.D) (l.getD 0 dZero).Exp) (l.getD 3 dZero) = some (dR (DA (l.getD 0 dZero) (l.getD 3 dZero))) from imA h0 h3]
    rfl
  have s2 : ∀ A B C D E ok, F_impl_TraceOf_l1 (TMatrix.mk 2 2 l) (A, B, C, D, E, ok, 2) = some (.br (A, B, C, D, E, ok, 2)) := fun A B C D E ok => by
    unfold F_impl_TraceOf_l1
    simp only
    rw [show decide ((2 : Int) < 2) = false by decide]
    rfl
  obtain ⟨k, hk⟩ : ∃ k, fuel = k + 1 + 1 + 1 := ⟨fuel - 3, by have := fuel_big (n := 3) (by omega); omega⟩
  rw [hk]
  simp only [whX, s0, s1, s2, Option.bind_some, orR]
theorem bl_impl {l l' : List TDyadic} (ol : okD l) (ll : l.length = 2 * 2) (ol' : okD l') (ll' : l'.length = 2 * 2) {i j : Nat} (hi : i < 3) (hj : j < 3) :
    ∃ x ok, F_impl_blochCell (TMatrix.mk 2 2 l) (TMatrix.mk 2 2 l') (i : Int) (j : Int) = some (x, ok) ∧ ((∃ z, blO l l' i j = some z ∧ x = z ∧ ok = true ∧ dOk z = true) ∨ (blO l l' i j = none ∧ ok = false)) := by
  obtain ⟨_, p2, p3, p4, p5⟩ := pau hi
  obtain ⟨_, q2, q3, q4, q5⟩ := pau hj
  have mk2 : ∀ {x : List TDyadic}, okD x → x.length = 2 * 2 → mOk (TMatrix.mk 2 2 x) = true := fun ox lx => m_make (R := 2) (C := 2) two_dim two_dim lx ox
  have hz : F_impl_MulDyadic dZero (TDyadic.mk (TRing.mk 1 0 0 0) 2) = some (dR (DM dZero dHalf)) := imM dZero_ok dHalf_ok
  unfold F_impl_blochCell blO
  rw [p2]
  simp only [Option.bind_some]
  rw [p3, q2]
  simp only [Option.bind_some]
  rw [q3]
  simp only [Option.bind_some]
  obtain ⟨a1, b1⟩ := im_mul (R := 2) (K := 2) (C := 2) (mk2 p5 p4) (mk2 ol ll)
  rw [show F_impl_MulMatrix (TMatrix.mk 2 2 (pauL i)) (TMatrix.mk 2 2 l) = _ from a1]
  cases h1 : mmO (pauL i) l 2 2 2 with
  | none =>
    simp only [mR, Option.bind_some, mul_bad, trace_bad, hz, Bool.false_and]
    exact ⟨_, _, rfl, .inr ⟨rfl, rfl⟩⟩
  | some l1 =>
    obtain ⟨o1, n1⟩ := b1 l1 h1
    simp only [mR, Option.bind_some]
    obtain ⟨a2, b2⟩ := im_mul (R := 2) (K := 2) (C := 2) (mk2 o1 n1) (mk2 q5 q4)
    rw [show F_impl_MulMatrix (TMatrix.mk ((2 : Nat) : Int) ((2 : Nat) : Int) l1) (TMatrix.mk 2 2 (pauL j)) = _ from a2]
    cases h2 : mmO l1 (pauL j) 2 2 2 with
    | none =>
      simp only [mR, Option.bind_some, mul_bad, trace_bad, hz, Bool.false_and, Bool.and_false]
      exact ⟨_, _, rfl, .inr ⟨rfl, rfl⟩⟩
    | some l2 =>
      obtain ⟨o2, n2⟩ := b2 l2 h2
      simp only [mR, Option.bind_some]
      obtain ⟨a3, b3⟩ := im_mul (R := 2) (K := 2) (C := 2) (mk2 o2 n2) (mk2 ol' ll')
      rw [show F_impl_MulMatrix (TMatrix.mk ((2 : Nat) : Int) ((2 : Nat) : Int) l2) (TMatrix.mk 2 2 l') = _ from a3]
      cases h3 : mmO l2 l' 2 2 2 with
      | none =>
        simp only [mR, Option.bind_some, trace_bad, hz, Bool.false_and, Bool.and_false]
        exact ⟨_, _, rfl, .inr ⟨rfl, rfl⟩⟩
      | some l3 =>
        obtain ⟨o3, n3⟩ := b3 l3 h3
        simp only [mR, Option.bind_some]
        rw [show F_impl_TraceOf (TMatrix.mk ((2 : Nat) : Int) ((2 : Nat) : Int) l3) = _ from trace_two o3 n3]
        obtain ⟨t, c4, e4, g4⟩ := srA (getD_ok o3 0) (getD_ok o3 3) false
        rcases g4.good with ⟨h4, rfl⟩ | ⟨h4, rfl⟩
        · rw [h4]
          simp only [dR, Option.bind_some]
          rw [show F_impl_MulDyadic t (TDyadic.mk (TRing.mk 1 0 0 0) 2) = some (dR (DM t dHalf)) from imM g4.1 dHalf_ok]
          obtain ⟨z, c5, e5, g5⟩ := srM g4.1 dHalf_ok false
          rcases g5.good with ⟨h5, rfl⟩ | ⟨h5, rfl⟩
          · rw [h5]
            exact ⟨_, _, rfl, .inl ⟨z, rfl, rfl, rfl, g5.1⟩⟩
          · rw [h5]
            exact ⟨_, _, rfl, .inr ⟨rfl, rfl⟩⟩
        · rw [h4]
          simp only [dR, Option.bind_some]
          rw [hz]
          simp only [Option.bind_some, Bool.and_false, Bool.false_and]
          exact ⟨_, _, rfl, .inr ⟨rfl, rfl⟩⟩
def bgO (l l' : List TDyadic) : Option (List TDyadic) := gridO (blO l l') 3 3
theorem bg_spec {l l' : List TDyadic} (ol : okD l) (ll : l.length = 2 * 2) (ol' : okD l') (ll' : l'.length = 2 * 2) (ha : F_spec_l3Adj (TMatrix.mk 2 2 l) = some (TMatrix.mk 2 2 l')) :
    F_spec_l9Bloch (TMatrix.mk 2 2 l) = some (match bgO l l' with | some x => (TBloch.mk x, true) | none => (TBloch.mk [], false)) := by
  have l2 : ∀ (i : Nat) (Cells : List TDyadic) (bad b0 : Bool) (s : List TDyadic), i < 3 → s.length = i * 3 → ∃ z b', forN (F_spec_l9Bloch_l2 i (TMatrix.mk 2 2 l) Cells bad) 3 0 (b0, s) = some (b', z) ∧ SR (fun z => z.length = i * 3 + 3) (forN (fun j s => (blO l l' i j).bind fun z => some (s ++ [z])) 3 0 s) b0 z b' := fun i Cells bad b0 s hi hs => by
    have := sr_it (f := F_spec_l9Bloch_l2 i (TMatrix.mk 2 2 l) Cells bad) (enc := fun b (l : List TDyadic) => (b, l)) (G := fun j (z : List TDyadic) => z.length = i * 3 + j) (st := fun j s => (blO l l' i j).bind fun z => some (s ++ [z])) (n := 3) (fun j b1 s hj hs => ?_) 3 0 s b0 (by omega) (by omega)
    · rw [Nat.zero_add] at this; exact this
    · obtain ⟨z, b', h1, h2⟩ := bl_spec ol ll ol' ll' ha hi hj Cells bad b1 s (by omega)
      exact ⟨s ++ [z], b', h1, h2.bind (SR.pure (by simp; omega))⟩
  obtain ⟨z, b', h1, h2⟩ := sr_it (f := F_spec_l9Bloch_l1 (TMatrix.mk 2 2 l)) (enc := fun b (l : List TDyadic) => (b, l)) (G := fun i (z : List TDyadic) => z.length = i * 3) (st := fun i s => forN (fun j s => (blO l l' i j).bind fun z => some (s ++ [z])) 3 0 s) (n := 3) (fun i b1 s hi hs => by
    obtain ⟨z, b', h1, h2⟩ := l2 i s b1 b1 s hi hs
    refine ⟨z, b', ?_, h2.mono (fun h => by omega)⟩
    unfold F_spec_l9Bloch_l1
    simp only
    rw [h1]; rfl) 3 0 [] false (by omega) rfl
  unfold F_spec_l9Bloch
  rw [show forN (F_spec_l9Bloch_l1 (TMatrix.mk 2 2 l)) 3 0 (false, []) = some (b', z) from h1]
  simp only [Option.bind_some]
  rcases h2.good with ⟨h3, rfl⟩ | ⟨h3, rfl⟩
  · rw [show bgO l l' = some z from h3]; rfl
  · rw [show bgO l l' = none from h3]; rfl
theorem bg_impl {l l' : List TDyadic} (ol : okD l) (ll : l.length = 2 * 2) (ol' : okD l') (ll' : l'.length = 2 * 2) :
    ((forX (F_impl_BlochOf_l1 (TMatrix.mk 2 2 l) (TMatrix.mk 2 2 l')) 3 0 []).bind <| orR fun Cells => some (((TBloch.mk Cells), true))) = some (match bgO l l' with | some x => (TBloch.mk x, true) | none => (TBloch.mk [], false)) ∧ ∀ x, bgO l l' = some x → x.length = 9 := by
  have l2 : ∀ (i : Nat) (s : List TDyadic), i < 3 → s.length = i * 3 → forX (F_impl_BlochOf_l2 (TMatrix.mk 2 2 l) (TMatrix.mk 2 2 l') i) 3 0 s = some (exO id (.rt (TBloch.mk [], false)) (forN (fun j s => (blO l l' i j).bind fun z => some (s ++ [z])) 3 0 s)) ∧
      ∀ z, forN (fun j s => (blO l l' i j).bind fun z => some (s ++ [z])) 3 0 s = some z → z.length = i * 3 + 3 := fun i s hi hs => by
    have := im_it (g := F_impl_BlochOf_l2 (TMatrix.mk 2 2 l) (TMatrix.mk 2 2 l') i) (enc := id) (G := fun j (z : List TDyadic) => z.length = i * 3 + j) (st := fun j s => (blO l l' i j).bind fun z => some (s ++ [z])) (R := Ex.rt (TBloch.mk [], false)) (n := 3) (fun j s hj hs => ?_) 3 0 s (by omega) (by omega)
    · rw [Nat.zero_add] at this; exact this
    · obtain ⟨x, ok, h1, h2⟩ := bl_impl ol ll ol' ll' hi hj
      unfold F_impl_BlochOf_l2
      simp only [id, h1, Option.bind_some]
      rcases h2 with ⟨z, h3, rfl, rfl, h4⟩ | ⟨h3, rfl⟩
      · rw [h3]
        simp only [Bool.not_true, cond_false, Option.bind_some]
        rw [chk_t (by omega)]
        exact ⟨rfl, fun z' hz => by cases hz; simp; omega⟩
      · rw [h3]
        exact ⟨rfl, fun z' hz => by cases hz⟩
  obtain ⟨h1, h2⟩ := im_it (g := F_impl_BlochOf_l1 (TMatrix.mk 2 2 l) (TMatrix.mk 2 2 l')) (enc := id) (G := fun i (z : List TDyadic) => z.length = i * 3) (st := fun i s => forN (fun j s => (blO l l' i j).bind fun z => some (s ++ [z])) 3 0 s) (R := (TBloch.mk [], false)) (n := 3) (fun i s hi hs => by
    obtain ⟨h1, h2⟩ := l2 i s hi hs
    unfold F_impl_BlochOf_l1
    simp only [id]
    rw [h1]
    cases hc : forN (fun j s => (blO l l' i j).bind fun z => some (s ++ [z])) 3 0 s with
    | none => exact ⟨rfl, fun z hz => by cases hz⟩
    | some z => exact ⟨rfl, fun z' hz => by cases hz; have := h2 z hc; omega⟩) 3 0 [] (by omega) rfl
  refine ⟨?_, fun x hx => by have := h2 x hx; omega⟩
  rw [show forX (F_impl_BlochOf_l1 (TMatrix.mk 2 2 l) (TMatrix.mk 2 2 l')) 3 0 [] = _ from h1]
  unfold bgO gridO
  cases forN (fun i l_1 => forN (fun j l_2 => (blO l l' i j).bind fun z => some (l_2 ++ [z])) 3 0 l_1) 3 0 [] <;> rfl
theorem bloch_both (m : TMatrix) (hl : m.Cells.length ≤ 1048576) : ∃ b ok, F_spec_BlochOf m = some (b, ok) ∧ F_impl_BlochOf m = some (b, ok) ∧ b.Cells.length ≤ 9 := by
  obtain ⟨g, h1, h2, h3⟩ := one_both m (by omega)
  unfold F_spec_BlochOf F_impl_BlochOf
  rw [h1, h2]
  simp only [Option.bind_some]
  cases g with
  | false => exact ⟨_, _, rfl, rfl, by decide⟩
  | true =>
    obtain ⟨hm, hr, hc⟩ := h3 rfl
    obtain ⟨R, C, l, rfl, d1, d2, b1, b2, ll, ol⟩ := m_parts hm
    obtain rfl : R = 2 := by simp only at hr; omega
    obtain rfl : C = 2 := by simp only at hc; omega
    obtain ⟨l', a1, a2, a3⟩ := adj_some (R := 2) (C := 2) ol
    have hs : F_spec_l3Adj (TMatrix.mk 2 2 l) = some (TMatrix.mk 2 2 l') := by
      have := spec_adj (R := 2) (C := 2) ol ll (by decide) (by decide)
      rw [a1] at this; exact this
    have hi := impl_adj (R := 2) (C := 2) hm
    rw [a1] at hi
    simp only [Bool.not_true, cond_false]
    obtain ⟨e1, e2⟩ := bg_impl ol ll a2 a3
    rw [show F_spec_l9Bloch (TMatrix.mk ((2 : Nat) : Int) ((2 : Nat) : Int) l) = _ from bg_spec ol ll a2 a3 hs, hi]
    simp only [mR, Option.bind_some]
    rw [show ((forX (F_impl_BlochOf_l1 (TMatrix.mk ((2 : Nat) : Int) ((2 : Nat) : Int) l) (TMatrix.mk ((2 : Nat) : Int) ((2 : Nat) : Int) l')) 3 0 []).bind <| orR fun Cells => some (((TBloch.mk Cells), true))) = _ from e1]
    cases hb : bgO l l' with
    | none => exact ⟨_, _, rfl, rfl, by decide⟩
    | some x => exact ⟨_, _, rfl, rfl, by have := e2 x hb; simp only; omega⟩
theorem to_DyadicS (a : List TDyadic) (h : a.length ≤ 1099511627776) : F_laws_toDyadicS a = some a := by
  unfold F_laws_toDyadicS
  rw [chk_t (by omega), chk_t (by omega), forN_fill (a := a) (by simp) (fun i out x hx ho => ?_)]
  · rfl
  · have hi := (List.getElem?_eq_some_iff.1 hx).1
    unfold F_laws_toDyadicS_l1 F_laws_toDyadic F_laws_toRing
    simp [getI_nat, hx, List.getElem?_eq_getElem (show i < out.length by omega)]
theorem sz_DyadicS (a : List TDyadic) (left : Int) (h : 0 ≤ left ∧ left ≤ 1048576) (ha : a.length ≤ 9223372036854775807) :
    (∃ s, F_laws_szDyadicS a left = some s ∧ (0 ≤ s ∧ s ≤ 1048576) ∧ a.length ≤ 1048576) ∨ ∃ s, F_laws_szDyadicS a left = some s ∧ s < 0 := by
  unfold F_laws_szDyadicS
  rw [wrap_i64 (a := left - (a.length : Int)) ⟨by omega, by omega⟩]
  by_cases hs : left - (a.length : Int) < 0
  · rw [decide_eq_true hs]; exact .inr ⟨_, rfl, by decide⟩
  · rw [decide_eq_false hs]; exact .inl ⟨_, rfl, ⟨by omega, by omega⟩, by omega⟩
theorem eqr_DyadicS (a : List TDyadic) (h : a.length ≤ 1099511627776) : F_laws_eqDyadicS a a = some true := by
  unfold F_laws_eqDyadicS
  simp only [bne_self_eq_false, cond_false]
  rw [chk_t (by omega), forX_pass (fun i hi => ?_)]
  · simp [orR]
  · unfold F_laws_eqDyadicS_l1 F_laws_eqDyadic F_laws_eqRing
    simp [getI_nat, List.getElem?_eq_getElem hi]
theorem to_Matrix (a : TMatrix) (h0 : a.Cells.length ≤ 1099511627776) : F_laws_toMatrix a = some a := by
  unfold F_laws_toMatrix; simp only [to_DyadicS a.Cells h0, Option.bind_some]
theorem eqr_Matrix (a : TMatrix) (h0 : a.Cells.length ≤ 1099511627776) : F_laws_eqMatrix a a = some true := by
  unfold F_laws_eqMatrix; simp [eqr_DyadicS a.Cells h0]
theorem sz_Matrix (a : TMatrix) (left : Int) (h : 0 ≤ left ∧ left ≤ 1048576) (h0 : a.Cells.length ≤ 9223372036854775807) :
    (∃ s, F_laws_szMatrix a left = some s ∧ (0 ≤ s ∧ s ≤ 1048576) ∧ a.Cells.length ≤ 1048576) ∨ ∃ s, F_laws_szMatrix a left = some s ∧ s < 0 := by
  unfold F_laws_szMatrix
  rcases sz_DyadicS a.Cells left h h0 with ⟨s0, e0, b0, t0_0⟩ | ⟨s0, e0, b0⟩
  rotate_left
  · exact .inr ⟨_, by rw [e0]; simp only [Option.bind_some, decide_eq_true b0, cond_true]; first | rfl | skip, by decide⟩
  rw [e0]
  simp only [Option.bind_some, decide_eq_false (show ¬ s0 < 0 by omega), cond_false]
  exact .inl ⟨_, rfl, b0, t0_0⟩
/-- The law, where the two answer alike. -/
theorem law_of (a0 : TMatrix) (ok0 : ok_Matrix a0) (hb : a0.Cells.length ≤ 1048576 → ∃ (r0 : Int) (r1 : Bool), F_spec_LeastTCount a0 = some (r0, r1) ∧ F_impl_LeastTCount a0 = some (r0, r1)) : F_laws_FnExactLeastTCount a0 = some true := by
  unfold F_laws_FnExactLeastTCount
  rcases sz_Matrix a0 1048576 ⟨by decide, by decide⟩ ok0.2.2.1 with ⟨s0, e0, b0, t0_0⟩ | ⟨s0, e0, b0⟩
  rotate_left
  · simp only [e0, Option.bind_some, decide_eq_true b0, cond_true]
  obtain ⟨r0, r1, hs, hi⟩ := hb t0_0
  simp only [e0, decide_eq_false (show ¬ s0 < 0 by omega), cond_false, Option.bind_some, to_Matrix a0 (by omega), eqr_Matrix a0 (by omega), hs, hi, cond_true, gb, Bool.not_true, Bool.not_false, Bool.or_false, Bool.false_or, Bool.or_self, beq_self_eq_true, bne_self_eq_false]
theorem exp_same (b : TBloch) : F_spec_l9Exp_l1 b = F_impl_blochExp_l1 b := by
  funext i k
  unfold F_spec_l9Exp_l1 F_impl_blochExp_l1 F_spec_l1Most
  cases getI b.Cells (i : Int) with
  | none => rfl
  | some x =>
    simp only [Option.bind_some]
    by_cases h : x.Exp < k
    · rw [decide_eq_true h, if_neg (by omega)]; rfl
    · rw [decide_eq_false h]
      by_cases h2 : k < x.Exp
      · rw [if_pos h2]; rfl
      · rw [if_neg h2]
        have : x.Exp = k := by omega
        rw [this]; rfl
theorem exp_some (b : TBloch) (hl : b.Cells.length ≤ 1048576) : ∃ e, F_spec_l9Exp b = some e ∧ F_impl_blochExp b = some e := by
  obtain ⟨e, h, _⟩ := forN_inv (f := F_impl_blochExp_l1 b) (fun _ _ => True) b.Cells.length 0 0 trivial (fun j s _ hj _ => by
    unfold F_impl_blochExp_l1
    rw [getI_nat, List.getElem?_eq_getElem (show j < b.Cells.length by omega)]
    exact ⟨_, rfl, trivial⟩)
  refine ⟨e, ?_, ?_⟩
  · unfold F_spec_l9Exp; rw [chk_t (by omega), exp_same, h]; rfl
  · unfold F_impl_blochExp; rw [chk_t (by omega), h]; rfl
theorem law_FnExactLeastTCount (a0 : TMatrix) (ok0 : ok_Matrix a0) : F_laws_FnExactLeastTCount a0 = some true :=
  law_of a0 ok0 (fun hl => by
    obtain ⟨b, ok, h1, h2, h3⟩ := bloch_both a0 hl
    unfold F_spec_LeastTCount F_impl_LeastTCount
    rw [h1, h2]
    simp only [Option.bind_some]
    cases ok with
    | false => exact ⟨_, _, rfl, rfl⟩
    | true =>
      obtain ⟨e, e1, e2⟩ := exp_some b (by omega)
      simp only [Bool.not_true, cond_false, e1, e2]
      exact ⟨_, _, rfl, rfl⟩)
end Go.VK
