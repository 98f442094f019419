/- The plain law of FnExactStateAfter: what its Lean function answers, for all arguments. -/
import Derived.Test.YtbhancgonaleoaaStateAfterFn
import Derived.Test.YtbhancgonaleoaaLibI
set_option maxRecDepth 10000
set_option maxHeartbeats 1000000
set_option linter.unusedSimpArgs false
set_option linter.unusedVariables false
namespace Go.VK
/-- Two loops in step that both end by themselves. -/
theorem whX2_inv {σ ρ ρ' : Type} {f : σ → Option (Ex σ ρ)} {g : σ → Option (Ex σ ρ')} (I : σ → Prop) (Q : σ → Prop) (m : σ → Nat)
    (h : ∀ s, I s → (∃ s', f s = some (.nx s') ∧ g s = some (.nx s') ∧ I s' ∧ m s' < m s) ∨ ∃ s', f s = some (.br s') ∧ g s = some (.br s') ∧ Q s') :
    ∀ (k : Nat) (s : σ), I s → m s < k → ∃ s', whX f k s = some (.inl s') ∧ whX g k s = some (.inl s') ∧ Q s'
  | 0, _, _, hm => absurd hm (Nat.not_lt_zero _)
  | k + 1, s, hI, hm => by
    rcases h s hI with ⟨s', h1, h1', h2, h3⟩ | ⟨s', h1, h1', h2⟩
    · obtain ⟨s'', h4, h4', h5⟩ := whX2_inv I Q m h k s' h2 (by omega)
      exact ⟨s'', by simp only [whX, h1, Option.bind_some]; exact h4, by simp only [whX, h1', Option.bind_some]; exact h4', h5⟩
    · exact ⟨s', by simp only [whX, h1, Option.bind_some], by simp only [whX, h1', Option.bind_some], h2⟩
theorem fuel_big {n : Nat} (h : n < 18446744073709551616) : n < fuel := h

/-- A coefficient that is taken. -/
def cfOk (n : Int) : Bool := decide (-1000000000 ≤ n) && decide (n ≤ 1000000000)
def rOk (x : TRing) : Bool := cfOk x.A && cfOk x.B && cfOk x.C && cfOk x.D
def rEven (x : TRing) : Bool := (Int.tmod (IntKind.i64.wrap (x.A + x.C)) 2 == 0) && (Int.tmod (IntKind.i64.wrap (x.B + x.D)) 2 == 0)
def dOk (x : TDyadic) : Bool := rOk x.Num && (decide (0 ≤ x.Exp) && decide (x.Exp ≤ 60)) && ((x.Exp == 0) || !rEven x.Num)
theorem cfOk_iff {n : Int} : cfOk n = true ↔ -1000000000 ≤ n ∧ n ≤ 1000000000 := by simp [cfOk]
theorem rOk_iff {x : TRing} : rOk x = true ↔ ((-1000000000 ≤ x.A ∧ x.A ≤ 1000000000) ∧ (-1000000000 ≤ x.B ∧ x.B ≤ 1000000000)) ∧ ((-1000000000 ≤ x.C ∧ x.C ≤ 1000000000) ∧ (-1000000000 ≤ x.D ∧ x.D ≤ 1000000000)) := by
  simp only [rOk, Bool.and_eq_true, cfOk_iff]
  constructor
  · rintro ⟨⟨⟨a, b⟩, c⟩, d⟩; exact ⟨⟨a, b⟩, c, d⟩
  · rintro ⟨⟨a, b⟩, c, d⟩; exact ⟨⟨⟨a, b⟩, c⟩, d⟩
theorem spec_ring (x : TRing) : F_spec_l1Good x = some (rOk x) := by
  unfold F_spec_l1Good F_spec_l1All
  rw [chk_t (by simp)]
  rcases forX_any (f := F_spec_l1All_l1 [x.A, x.B, x.C, x.D] (-1000000000) 1000000000) (l := [x.A, x.B, x.C, x.D]) (p := fun n => !cfOk n) (q := fun _ => false) (fun i y hy => by
    have e : F_spec_l1In y (-1000000000) 1000000000 = some (cfOk y) := rfl
    unfold F_spec_l1All_l1; simp only [getI_nat, hy, Option.bind_some, e]; cases cfOk y <;> rfl) with ⟨h1, h2⟩ | ⟨h1, i, _, h2⟩
  · rw [h2]; simp at h1; simp [orR, rOk, h1]
  · rw [h2]; simp only [Option.bind_some, orR]; congr 1; symm
    cases h : rOk x with
    | false => rfl
    | true => simp only [rOk, Bool.and_eq_true] at h; simp [h] at h1
theorem impl_coef (n : Int) : F_impl_isCoef n = some (cfOk n) := rfl
theorem impl_ring (x : TRing) : F_impl_IsValidRing x = some (rOk x) := by
  unfold F_impl_IsValidRing rOk
  simp only [impl_coef, Option.bind_some, gb]
  cases cfOk x.A <;> cases cfOk x.B <;> cases cfOk x.C <;> cases cfOk x.D <;> rfl
theorem spec_even (x : TRing) : F_spec_l1Even x = some (rEven x) := rfl
theorem impl_even (x : TRing) : F_impl_isEven x = some (rEven x) := rfl
theorem impl_dyadic (x : TDyadic) : F_impl_IsValidDyadic x = some (dOk x) := by
  unfold F_impl_IsValidDyadic F_impl_within dOk
  simp only [impl_ring, impl_even, Option.bind_some, gb]
  cases rOk x.Num <;> cases decide (0 ≤ x.Exp) && decide (x.Exp ≤ 60) <;> cases x.Exp == 0 <;> cases rEven x.Num <;> rfl
def rZero : TRing := TRing.mk 0 0 0 0
def dZero : TDyadic := TDyadic.mk rZero 0
theorem ring_if (out : TRing) (args : List TRing) (hl : args.length ≤ 10) : F_impl_ringIf out args = some (if args.all rOk && rOk out then (out, true) else (rZero, false)) := by
  unfold F_impl_ringIf
  rw [chk_t (by omega), chk_t (by simp; omega)]
  rcases forX_any (f := F_impl_ringIf_l1 args out) (l := args ++ [out]) (p := fun x => !rOk x) (q := fun _ => (TRing.mk 0 0 0 0, false)) (fun i y hy => by
    unfold F_impl_ringIf_l1; simp only [getI_nat, hy, Option.bind_some, impl_ring]; cases rOk y <;> rfl) with ⟨h1, h2⟩ | ⟨h1, i, _, h2⟩
  · rw [h2]
    have : (args.all rOk && rOk out) = true := by
      simp only [List.any_append, List.any_cons, List.any_nil, Bool.or_false, Bool.or_eq_false_iff] at h1
      simp only [Bool.and_eq_true, List.all_eq_true]
      exact ⟨fun x hx => by have := List.any_eq_false.1 h1.1 x hx; simpa using this, by simpa using h1.2⟩
    rw [this]; rfl
  · rw [h2]
    have : (args.all rOk && rOk out) = false := by
      simp only [List.any_append, List.any_cons, List.any_nil, Bool.or_false, Bool.or_eq_true] at h1
      rcases h1 with h | h
      · obtain ⟨x, hx, hp⟩ := List.any_eq_true.1 h
        have : args.all rOk = false := by rw [List.all_eq_false]; exact ⟨x, hx, by simpa using hp⟩
        rw [this]; rfl
      · simp at h; rw [h]; simp
    rw [this]; rfl

def rHalf (x : TRing) : TRing := TRing.mk (Int.tdiv (x.B - x.D) 2) (Int.tdiv (x.A + x.C) 2) (Int.tdiv (x.B + x.D) 2) (Int.tdiv (x.C - x.A) 2)
def rRoot (x : TRing) : TRing := TRing.mk (x.B - x.D) (x.A + x.C) (x.B + x.D) (x.C - x.A)
theorem wr {a : Int} (h : -9000000000000000000 ≤ a ∧ a ≤ 9000000000000000000) : IntKind.i64.wrap a = a := wrap_i64 ⟨by omega, by omega⟩
theorem tdiv_le' {a : Int} (h : -2000000000 ≤ a ∧ a ≤ 2000000000) : -1000000000 ≤ Int.tdiv a 2 ∧ Int.tdiv a 2 ≤ 1000000000 := by
  rcases Int.le_total 0 a with h0 | h0
  · rw [Int.tdiv_eq_ediv_of_nonneg h0]; omega
  · have e : a = -(-a) := by omega
    rw [e, Int.neg_tdiv, Int.tdiv_eq_ediv_of_nonneg (by omega)]; omega
theorem half_ok {x : TRing} (h : rOk x = true) : rOk (rHalf x) = true := by
  rw [rOk_iff] at h ⊢
  exact ⟨⟨tdiv_le' (by omega), tdiv_le' (by omega)⟩, tdiv_le' (by omega), tdiv_le' (by omega)⟩
theorem spec_root {x : TRing} (h : rOk x = true) : F_spec_l1Root x = some (rRoot x) := by
  rw [rOk_iff] at h
  unfold F_spec_l1Root rRoot
  rw [wr (a := x.B - x.D) (by omega), wr (a := x.A + x.C) (by omega), wr (a := x.B + x.D) (by omega), wr (a := x.C - x.A) (by omega)]
theorem spec_half {x : TRing} (h : rOk x = true) : F_spec_l1Half x = some (rHalf x) := by
  unfold F_spec_l1Half
  rw [spec_root h]
  have h' := h
  rw [rOk_iff] at h
  have t := half_ok h'
  rw [rOk_iff] at t
  simp only [Option.bind_some, rRoot]
  unfold rHalf at t ⊢
  simp only at t
  rw [wr (a := Int.tdiv (x.B - x.D) 2) (by omega), wr (a := Int.tdiv (x.A + x.C) 2) (by omega), wr (a := Int.tdiv (x.B + x.D) 2) (by omega), wr (a := Int.tdiv (x.C - x.A) 2) (by omega)]
theorem impl_half {x : TRing} (h : rOk x = true) (he : rEven x = true) : F_impl_DivRootTwo x = some (rHalf x, true) := by
  unfold F_impl_DivRootTwo
  have h' := h
  have t := half_ok h'
  have tt := t
  rw [rOk_iff] at h t
  simp only [impl_ring, impl_even, h', he, Option.bind_some, gb, Bool.not_true, Bool.not_false, cond_true, Bool.or_self, cond_false]
  rw [wr (a := x.B - x.D) (by omega), wr (a := x.A + x.C) (by omega), wr (a := x.B + x.D) (by omega), wr (a := x.C - x.A) (by omega)]
  unfold rHalf at t tt ⊢
  simp only at t
  rw [wr (a := Int.tdiv (x.B - x.D) 2) (by omega), wr (a := Int.tdiv (x.A + x.C) 2) (by omega), wr (a := Int.tdiv (x.B + x.D) 2) (by omega), wr (a := Int.tdiv (x.C - x.A) 2) (by omega)]
  rw [ring_if _ _ (by simp)]
  simp [h', tt]
/-- Both bring a number to its lowest terms, and alike. -/
theorem low_both {x : TRing} {e : Int} (hx : rOk x = true) (he : 0 ≤ e ∧ e ≤ 60) : ∃ z, F_spec_l2Low x e = some z ∧ F_impl_DyadicOf x e = some (z, true) ∧ dOk z = true := by
  obtain ⟨⟨e', A, B, C, D⟩, h1, h2, h3, h4, h5, h6⟩ := whX2_inv (f := F_spec_l2Low_l1) (g := F_impl_DyadicOf_l1) (fun s => rOk (TRing.mk s.2.1 s.2.2.1 s.2.2.2.1 s.2.2.2.2) = true ∧ 0 ≤ s.1 ∧ s.1 ≤ 60)
    (fun s => rOk (TRing.mk s.2.1 s.2.2.1 s.2.2.2.1 s.2.2.2.2) = true ∧ 0 ≤ s.1 ∧ s.1 ≤ 60 ∧ ((s.1 == 0) || !rEven (TRing.mk s.2.1 s.2.2.1 s.2.2.2.1 s.2.2.2.2)) = true) (fun s => s.1.toNat)
    (fun s ⟨hr, h0, h60⟩ => by
      obtain ⟨e, A, B, C, D⟩ := s
      simp only at hr h0 h60
      unfold F_spec_l2Low_l1 F_impl_DyadicOf_l1
      simp only [spec_even, impl_even, Option.bind_some, gb]
      by_cases hpos : 0 < e
      · rw [decide_eq_true hpos]
        cases hev : rEven (TRing.mk A B C D) with
        | true =>
          simp only [cond_true, Bool.and_self, spec_half hr, impl_half hr hev, Option.bind_some]
          refine .inl ⟨_, rfl, rfl, ⟨half_ok hr, ?_⟩, ?_⟩
          · show 0 ≤ IntKind.i64.wrap (e - 1) ∧ IntKind.i64.wrap (e - 1) ≤ 60
            rw [wr (by omega)]; omega
          · show (IntKind.i64.wrap (e - 1)).toNat < e.toNat
            rw [wr (by omega)]; omega
        | false =>
          simp only [cond_true, Bool.and_false, cond_false]
          exact .inr ⟨_, rfl, rfl, hr, h0, h60, by simp [hev]⟩
      · rw [decide_eq_false hpos]
        simp only [cond_false, Bool.false_and]
        have : e = 0 := by omega
        exact .inr ⟨_, rfl, rfl, hr, h0, h60, by simp [this]⟩)
    fuel (e, x.A, x.B, x.C, x.D) ⟨hx, he.1, he.2⟩ (fuel_big (by omega))
  refine ⟨TDyadic.mk (TRing.mk A B C D) e', ?_, ?_, ?_⟩
  · unfold F_spec_l2Low; rw [h1]; rfl
  · unfold F_impl_DyadicOf F_impl_within
    simp only [impl_ring, hx, Option.bind_some, gb, Bool.not_true, Bool.not_false, cond_true, Bool.false_or]
    rw [decide_eq_true he.1, decide_eq_true he.2]
    simp only [Bool.and_self, Bool.not_true, cond_false]
    rw [h2]; rfl
  · simp only at h3 h4 h5 h6
    unfold dOk
    simp only [h3, decide_eq_true h4, decide_eq_true h5, Bool.true_and, Bool.and_self]
    exact h6

theorem d_parts {x : TDyadic} (h : dOk x = true) : rOk x.Num = true ∧ 0 ≤ x.Exp ∧ x.Exp ≤ 60 := by
  unfold dOk at h
  simp only [Bool.and_eq_true, decide_eq_true_eq] at h
  exact ⟨h.1.1, h.1.2.1, h.1.2.2⟩
theorem dZero_ok : dOk dZero = true := by decide
theorem rZero_ok : rOk rZero = true := by decide
def cB (b : Bool) : Tl2C := Tl2C.mk b
theorem spec_cring (b : Bool) (x : TRing) : F_spec_l2C_ring (cB b) x = some (if rOk x then (x, cB b) else (rZero, cB true)) := by
  unfold F_spec_l2C_ring
  rw [spec_ring]
  simp only [Option.bind_some]
  cases rOk x <;> rfl
def rMul (x y : TRing) : TRing := (F_spec_l1Mul x y).getD rZero
theorem impl_rmul {x y : TRing} (hx : rOk x = true) (hy : rOk y = true) : F_impl_MulRing x y = some (if rOk (rMul x y) then (rMul x y, true) else (rZero, false)) := by
  have e := ring_if (rMul x y) [x, y] (by simp)
  simp only [List.all_cons, List.all_nil, hx, hy, Bool.true_and] at e
  have e2 : F_impl_MulRing x y = (F_impl_ringIf (rMul x y) [x, y]).bind fun p => some (p.1, p.2) := rfl
  rw [e2, e]
  cases rOk (rMul x y) <;> rfl
theorem mul_both {x y : TDyadic} (hx : dOk x = true) (hy : dOk y = true) :
    (∃ z, dOk z = true ∧ (∀ b, F_spec_l2C_mul (cB b) x y = some (z, cB b)) ∧ F_impl_MulDyadic x y = some (z, true)) ∨
      ((∀ b, ∃ z, dOk z = true ∧ F_spec_l2C_mul (cB b) x y = some (z, cB true)) ∧ F_impl_MulDyadic x y = some (dZero, false)) := by
  obtain ⟨x1, x2, x3⟩ := d_parts hx
  obtain ⟨y1, y2, y3⟩ := d_parts hy
  have hw : IntKind.i64.wrap (x.Exp + y.Exp) = x.Exp + y.Exp := wr (by omega)
  have hi : ∀ q : TRing × Bool, F_impl_MulRing x.Num y.Num = some q → F_impl_MulDyadic x y = (bif !q.2 then some (dZero, false) else (F_impl_DyadicOf q.1 (x.Exp + y.Exp)).bind fun p => some (p.1, p.2)) := fun q hq => by
    unfold F_impl_MulDyadic
    rw [hq]
    simp only [Option.bind_some, impl_dyadic, hx, hy, gb, Bool.not_true, Bool.not_false, cond_true, Bool.false_or, hw]
    rfl
  by_cases he : x.Exp + y.Exp ≤ 60
  · have hs : ∀ b, F_spec_l2C_mul (cB b) x y = (F_spec_l2C_ring (cB b) (rMul x.Num y.Num)).bind fun p => (F_spec_l2Low p.1 (x.Exp + y.Exp)).bind fun r => some (r, p.2) := fun b => by
      unfold F_spec_l2C_mul
      rw [hw, decide_eq_false (show ¬ (60 : Int) < x.Exp + y.Exp by omega)]
      rfl
    cases hr : rOk (rMul x.Num y.Num) with
    | true =>
      obtain ⟨z, z1, z2, z3⟩ := low_both hr (e := x.Exp + y.Exp) ⟨by omega, he⟩
      refine .inl ⟨z, z3, fun b => ?_, ?_⟩
      · rw [hs, spec_cring, hr]; simp only [if_true, Option.bind_some, z1]
      · rw [hi _ (impl_rmul x1 y1), hr]; simp only [if_true, Bool.not_true, cond_false, z2, Option.bind_some]
    | false =>
      refine .inr ⟨fun b => ?_, ?_⟩
      · obtain ⟨z, z1, z2, z3⟩ := low_both rZero_ok (e := x.Exp + y.Exp) ⟨by omega, he⟩
        exact ⟨z, z3, by rw [hs, spec_cring, hr]; simp only [Bool.false_eq_true, if_false, Option.bind_some, z1]⟩
      · rw [hi _ (impl_rmul x1 y1), hr]; rfl
  · refine .inr ⟨fun b => ⟨dZero, dZero_ok, ?_⟩, ?_⟩
    · unfold F_spec_l2C_mul
      rw [hw, decide_eq_true (show (60 : Int) < x.Exp + y.Exp by omega)]
      rfl
    · rw [hi _ (impl_rmul x1 y1)]
      cases hr : rOk (rMul x.Num y.Num) with
      | false => rfl
      | true =>
        simp only [if_true, Bool.not_true, cond_false]
        unfold F_impl_DyadicOf F_impl_within
        simp only [impl_ring, hr, Option.bind_some, gb, Bool.not_true, Bool.not_false, cond_true, Bool.false_or]
        rw [decide_eq_false (show ¬ x.Exp + y.Exp ≤ 60 by omega)]
        simp only [Bool.and_false, Bool.not_false, cond_true]
        rfl

theorem impl_root {x : TRing} (h : rOk x = true) : F_impl_MulRootTwo x = some (if rOk (rRoot x) then (rRoot x, true) else (rZero, false)) := by
  unfold F_impl_MulRootTwo
  have h' := h
  rw [rOk_iff] at h
  rw [wr (a := x.B - x.D) (by omega), wr (a := x.A + x.C) (by omega), wr (a := x.B + x.D) (by omega), wr (a := x.C - x.A) (by omega)]
  have e := ring_if (rRoot x) [x] (by simp)
  simp only [List.all_cons, List.all_nil, h', Bool.true_and] at e
  show (F_impl_ringIf (rRoot x) [x]).bind _ = _
  rw [e]
  cases rOk (rRoot x) <;> rfl
def rTup (b : Bool) (x : TRing) (e : Int) : Bool × Int × Int × Int × Int × Int := (b, x.A, x.B, x.C, x.D, e)
def iTup (x : TRing) (ok : Bool) (e : Int) : Int × Int × Int × Int × Bool × Int := (x.A, x.B, x.C, x.D, ok, e)
/-- A number's numerator for a greater exponent, in the specification's loop. -/
theorem spec_raise {f : Bool × Int × Int × Int × Int × Int → Option (Ex (Bool × Int × Int × Int × Int × Int) (TDyadic × Tl2C))} {E : Int} (hE : E ≤ 60)
    (hf : ∀ b x e, rOk x = true → 0 ≤ e → e ≤ 60 → f (rTup b x e) = some (bif decide (e < E) then .nx (if rOk (rRoot x) then rTup b (rRoot x) (e + 1) else rTup true rZero (e + 1)) else .br (rTup b x e))) :
    ∀ (k : Nat) (b : Bool) (x : TRing) (e : Int), rOk x = true → 0 ≤ e → e ≤ E → (E - e).toNat < k → ∃ b' x', whX f k (rTup b x e) = some (.inl (rTup b' x' E)) ∧ rOk x' = true ∧ (b = true → b' = true)
  | 0, _, _, _, _, _, _, hk => absurd hk (Nat.not_lt_zero _)
  | k + 1, b, x, e, hx, h0, h1, hk => by
    have h := hf b x e hx h0 (by omega)
    by_cases hlt : e < E
    · rw [decide_eq_true hlt, cond_true] at h
      cases hr : rOk (rRoot x) with
      | true =>
        rw [hr] at h; simp only [if_true] at h
        obtain ⟨b', x', e1, e2, e3⟩ := spec_raise hE hf k b (rRoot x) (e + 1) hr (by omega) (by omega) (by omega)
        exact ⟨b', x', by simp only [whX, h, Option.bind_some]; exact e1, e2, e3⟩
      | false =>
        rw [hr] at h; simp only [Bool.false_eq_true, if_false] at h
        obtain ⟨b', x', e1, e2, e3⟩ := spec_raise hE hf k true rZero (e + 1) rZero_ok (by omega) (by omega) (by omega)
        exact ⟨b', x', by simp only [whX, h, Option.bind_some]; exact e1, e2, fun _ => e3 rfl⟩
    · rw [decide_eq_false hlt, cond_false] at h
      have : e = E := by omega
      subst this
      exact ⟨b, x, by simp only [whX, h, Option.bind_some], hx, id⟩
theorem impl_raise_step {E : Int} {x : TRing} {e : Int} (hx : rOk x = true) (h0 : 0 ≤ e) (h1 : e ≤ 60) (ok : Bool) :
    F_impl_raised_l1 E (iTup x ok e) = some (bif decide (e < E) && ok then .nx (if rOk (rRoot x) then iTup (rRoot x) true (e + 1) else iTup rZero false (e + 1)) else .br (iTup x ok e)) := by
  unfold F_impl_raised_l1 iTup
  simp only [impl_root hx]
  rw [wr (a := e + 1) (by omega)]
  cases decide (e < E) && ok <;> cases rOk (rRoot x) <;> rfl
theorem raise_both {f : Bool × Int × Int × Int × Int × Int → Option (Ex (Bool × Int × Int × Int × Int × Int) (TDyadic × Tl2C))} {E : Int} (hE : E ≤ 60)
    (hf : ∀ b x e, rOk x = true → 0 ≤ e → e ≤ 60 → f (rTup b x e) = some (bif decide (e < E) then .nx (if rOk (rRoot x) then rTup b (rRoot x) (e + 1) else rTup true rZero (e + 1)) else .br (rTup b x e))) :
    ∀ (k : Nat) (x : TRing) (e : Int), rOk x = true → 0 ≤ e → e ≤ E → (E - e).toNat < k →
      (∃ x', rOk x' = true ∧ (∀ b, whX f k (rTup b x e) = some (.inl (rTup b x' E))) ∧ whX (F_impl_raised_l1 E) k (iTup x true e) = some (.inl (iTup x' true E))) ∨
        ((∀ b, ∃ x', rOk x' = true ∧ whX f k (rTup b x e) = some (.inl (rTup true x' E))) ∧ ∃ x'' e', rOk x'' = true ∧ whX (F_impl_raised_l1 E) k (iTup x true e) = some (.inl (iTup x'' false e')))
  | 0, _, _, _, _, _, hk => absurd hk (Nat.not_lt_zero _)
  | k + 1, x, e, hx, h0, h1, hk => by
    have h := fun b => hf b x e hx h0 (by omega)
    have hg := impl_raise_step (E := E) hx h0 (by omega) true
    by_cases hlt : e < E
    · simp only [decide_eq_true hlt, cond_true, Bool.true_and] at h hg
      cases hr : rOk (rRoot x) with
      | true =>
        simp only [hr, if_true] at h hg
        rcases raise_both hE hf k (rRoot x) (e + 1) hr (by omega) (by omega) (by omega) with ⟨x', e1, e2, e3⟩ | ⟨e1, x'', e', e2, e3⟩
        · exact .inl ⟨x', e1, fun b => by simp only [whX, h, Option.bind_some]; exact e2 b, by simp only [whX, hg, Option.bind_some]; exact e3⟩
        · refine .inr ⟨fun b => ?_, x'', e', e2, by simp only [whX, hg, Option.bind_some]; exact e3⟩
          obtain ⟨x', e4, e5⟩ := e1 b
          exact ⟨x', e4, by simp only [whX, h, Option.bind_some]; exact e5⟩
      | false =>
        simp only [hr, Bool.false_eq_true, if_false] at h hg
        refine .inr ⟨fun b => ?_, rZero, e + 1, rZero_ok, ?_⟩
        · obtain ⟨b', x', e1, e2, e3⟩ := spec_raise hE hf k true rZero (e + 1) rZero_ok (by omega) (by omega) (by omega)
          have : b' = true := e3 rfl
          subst this
          exact ⟨x', e2, by simp only [whX, h, Option.bind_some]; exact e1⟩
        · cases k with
          | zero => omega
          | succ k =>
            have hg2 := impl_raise_step (E := E) rZero_ok (show 0 ≤ e + 1 by omega) (by omega) false
            simp only [Bool.and_false, cond_false] at hg2
            simp only [whX, hg, Option.bind_some, hg2]
    · simp only [decide_eq_false hlt, cond_false, Bool.false_and] at h hg
      have : e = E := by omega
      subst this
      exact .inl ⟨x, hx, fun b => by simp only [whX, h, Option.bind_some], by simp only [whX, hg, Option.bind_some]⟩
def rAdd (x y : TRing) : TRing := (F_spec_l1Add x y).getD rZero
theorem impl_radd {x y : TRing} (hx : rOk x = true) (hy : rOk y = true) : F_impl_AddRing x y = some (if rOk (rAdd x y) then (rAdd x y, true) else (rZero, false)) := by
  have e := ring_if (rAdd x y) [x, y] (by simp)
  simp only [List.all_cons, List.all_nil, hx, hy, Bool.true_and] at e
  have e2 : F_impl_AddRing x y = (F_impl_ringIf (rAdd x y) [x, y]).bind fun p => some (p.1, p.2) := rfl
  rw [e2, e]
  cases rOk (rAdd x y) <;> rfl
theorem add_l1 (y : TDyadic) (b : Bool) (x : TRing) (e : Int) (hx : rOk x = true) (h0 : 0 ≤ e) (h1 : e ≤ 60) :
    F_spec_l2C_add_l1 y (rTup b x e) = some (bif decide (e < y.Exp) then .nx (if rOk (rRoot x) then rTup b (rRoot x) (e + 1) else rTup true rZero (e + 1)) else .br (rTup b x e)) := by
  have hr := spec_cring b (rRoot x)
  unfold cB at hr
  unfold F_spec_l2C_add_l1 rTup
  simp only [spec_root hx, hr, Option.bind_some]
  rw [wr (a := e + 1) (by omega)]
  cases decide (e < y.Exp) <;> cases rOk (rRoot x) <;> rfl
theorem add_l2 (E : Int) (b0 : Bool) (A C D : Int) (b : Bool) (x : TRing) (e : Int) (hx : rOk x = true) (h0 : 0 ≤ e) (h1 : e ≤ 60) :
    F_spec_l2C_add_l2 E b0 A C D (rTup b x e) = some (bif decide (e < E) then .nx (if rOk (rRoot x) then rTup b (rRoot x) (e + 1) else rTup true rZero (e + 1)) else .br (rTup b x e)) := by
  have hr := spec_cring b (rRoot x)
  unfold cB at hr
  unfold F_spec_l2C_add_l2 rTup
  simp only [spec_root hx, hr, Option.bind_some]
  rw [wr (a := e + 1) (by omega)]
  cases decide (e < E) <;> cases rOk (rRoot x) <;> rfl
/-- The end of a sum in the specification. -/
def fin (b : Bool) (a c : TRing) (E : Int) : Option (TDyadic × Tl2C) :=
  (F_spec_l2C_ring (cB b) (rAdd a c)).bind fun p => (F_spec_l2Low p.1 E).bind fun r => some (r, p.2)
theorem fin_bad (a c : TRing) {E : Int} (hE : 0 ≤ E ∧ E ≤ 60) : ∃ z, dOk z = true ∧ fin true a c E = some (z, cB true) := by
  unfold fin
  rw [spec_cring]
  cases hr : rOk (rAdd a c) with
  | true =>
    obtain ⟨z, z1, _, z3⟩ := low_both hr hE
    exact ⟨z, z3, by simp only [if_true, Option.bind_some, z1]⟩
  | false =>
    obtain ⟨z, z1, _, z3⟩ := low_both rZero_ok hE
    exact ⟨z, z3, by simp only [Bool.false_eq_true, if_false, Option.bind_some, z1]⟩
theorem fin_both {a c : TRing} {E : Int} (hE : 0 ≤ E ∧ E ≤ 60) :
    (rOk (rAdd a c) = true ∧ ∃ z, dOk z = true ∧ (∀ b, fin b a c E = some (z, cB b)) ∧ F_impl_DyadicOf (rAdd a c) E = some (z, true)) ∨ (rOk (rAdd a c) = false ∧ ∀ b, ∃ z, dOk z = true ∧ fin b a c E = some (z, cB true)) := by
  cases hr : rOk (rAdd a c) with
  | true =>
    obtain ⟨z, z1, z2, z3⟩ := low_both hr hE
    exact .inl ⟨rfl, z, z3, fun b => by unfold fin; rw [spec_cring, hr]; simp only [if_true, Option.bind_some, z1], z2⟩
  | false =>
    obtain ⟨z, z1, _, z3⟩ := low_both rZero_ok hE
    exact .inr ⟨rfl, fun b => ⟨z, z3, by unfold fin; rw [spec_cring, hr]; simp only [Bool.false_eq_true, if_false, Option.bind_some, z1]⟩⟩
/-- The specification's sum: its two loops, then its end. -/
theorem spec_add_eq (b : Bool) (x y : TDyadic) {b1 b2 : Bool} {a c : TRing} {e1 e2 : Int} (h1 : whX (F_spec_l2C_add_l1 y) fuel (rTup b x.Num x.Exp) = some (.inl (rTup b1 a e1)))
    (h2 : whX (F_spec_l2C_add_l2 e1 b1 a.A a.C a.D) fuel (rTup b1 y.Num y.Exp) = some (.inl (rTup b2 c e2))) : F_spec_l2C_add (cB b) x y = fin b2 a c e1 := by
  unfold F_spec_l2C_add
  unfold rTup at h1 h2
  show (whX (F_spec_l2C_add_l1 y) fuel (b, x.Num.A, x.Num.B, x.Num.C, x.Num.D, x.Exp)).bind _ = _
  rw [h1]
  simp only [Option.bind_some, orR]
  rw [h2]
  rfl
theorem raised_of {x : TDyadic} {E : Int} {a : TRing} {ok : Bool} {e : Int} (h : whX (F_impl_raised_l1 E) fuel (iTup x.Num true x.Exp) = some (.inl (iTup a ok e))) : F_impl_raised x E = some (a, ok) := by
  unfold F_impl_raised
  unfold iTup at h
  rw [h]
  rfl
theorem comb_add {x y : TDyadic} (hx : dOk x = true) (hy : dOk y = true) {E : Int} (hE : (if x.Exp < y.Exp then y.Exp else x.Exp) = E) {a c : TRing} {oa oc : Bool} (h1 : F_impl_raised x E = some (a, oa)) (h2 : F_impl_raised y E = some (c, oc))
    (ha : rOk a = true) (hc : rOk c = true) : F_impl_AddDyadic x y = (bif oa && oc && rOk (rAdd a c) then F_impl_DyadicOf (rAdd a c) E else some (dZero, false)) := by
  unfold F_impl_AddDyadic F_impl_combined
  rw [hE]
  simp only [impl_dyadic, hx, hy, Option.bind_some, gb, Bool.not_true, Bool.not_false, cond_true, Bool.or_self, cond_false, h1, h2, impl_radd ha hc]
  cases oa <;> cases oc <;> cases hr : rOk (rAdd a c) <;> simp only [Bool.not_true, Bool.not_false, Bool.or_self, Bool.or_true, Bool.true_or, Bool.false_or, Bool.or_false, Bool.and_self, Bool.and_true, Bool.and_false, Bool.true_and, Bool.false_and, if_true, Bool.false_eq_true, if_false, Option.bind_some, cond_true, cond_false]
  all_goals first | rfl | (cases F_impl_DyadicOf (rAdd a c) E <;> rfl)
theorem add_both {x y : TDyadic} (hx : dOk x = true) (hy : dOk y = true) :
    (∃ z, dOk z = true ∧ (∀ b, F_spec_l2C_add (cB b) x y = some (z, cB b)) ∧ F_impl_AddDyadic x y = some (z, true)) ∨
      ((∀ b, ∃ z, dOk z = true ∧ F_spec_l2C_add (cB b) x y = some (z, cB true)) ∧ F_impl_AddDyadic x y = some (dZero, false)) := by
  obtain ⟨x1, x2, x3⟩ := d_parts hx
  obtain ⟨y1, y2, y3⟩ := d_parts hy
  have stay : ∀ {f : Bool × Int × Int × Int × Int × Int → Option (Ex (Bool × Int × Int × Int × Int × Int) (TDyadic × Tl2C))} {t : Bool × Int × Int × Int × Int × Int}, f t = some (.br t) → whX f fuel t = some (.inl t) := fun h => by
    rw [show fuel = (fuel - 1) + 1 from rfl]; simp only [whX, h, Option.bind_some]
  have stayI : ∀ {E : Int} {z : TDyadic}, rOk z.Num = true → 0 ≤ z.Exp → z.Exp ≤ 60 → ¬ z.Exp < E → F_impl_raised z E = some (z.Num, true) := fun {E z} h h0 h1 hn => by
    refine raised_of (e := z.Exp) ?_
    have := impl_raise_step (E := E) h h0 h1 true
    simp only [decide_eq_false hn, Bool.false_and, cond_false] at this
    rw [show fuel = (fuel - 1) + 1 from rfl]; simp only [whX, this, Option.bind_some]
  by_cases hlt : x.Exp < y.Exp
  · have hE : (if x.Exp < y.Exp then y.Exp else x.Exp) = y.Exp := if_pos hlt
    have hst : ∀ (b : Bool) (a : TRing), whX (F_spec_l2C_add_l2 y.Exp b a.A a.C a.D) fuel (rTup b y.Num y.Exp) = some (.inl (rTup b y.Num y.Exp)) := fun b a => stay (by
      rw [add_l2 _ _ _ _ _ _ _ _ y1 y2 y3, decide_eq_false (by omega)]; rfl)
    rcases raise_both (f := F_spec_l2C_add_l1 y) (E := y.Exp) y3 (add_l1 y) fuel x.Num x.Exp x1 x2 (by omega) (fuel_big (by omega)) with ⟨a, a1, a2, a3⟩ | ⟨a1, a, e', a2, a3⟩
    · have hc := comb_add hx hy hE (raised_of a3) (stayI y1 y2 y3 (by omega)) a1 y1
      rcases fin_both (a := a) (c := y.Num) (E := y.Exp) ⟨y2, y3⟩ with ⟨r1, z, z1, z2, z3⟩ | ⟨r1, z1⟩
      · exact .inl ⟨z, z1, fun b => by rw [spec_add_eq b x y (a2 b) (hst b a)]; exact z2 b, by rw [hc, r1]; exact z3⟩
      · refine .inr ⟨fun b => ?_, by rw [hc, r1]; rfl⟩
        obtain ⟨z, z2, z3⟩ := z1 b
        exact ⟨z, z2, by rw [spec_add_eq b x y (a2 b) (hst b a)]; exact z3⟩
    · have hc := comb_add hx hy hE (raised_of a3) (stayI y1 y2 y3 (by omega)) a2 y1
      refine .inr ⟨fun b => ?_, by rw [hc]; rfl⟩
      obtain ⟨a', _, a5⟩ := a1 b
      obtain ⟨z, z2, z3⟩ := fin_bad a' y.Num (E := y.Exp) ⟨y2, y3⟩
      exact ⟨z, z2, by rw [spec_add_eq b x y a5 (hst true a')]; exact z3⟩
  · have hE : (if x.Exp < y.Exp then y.Exp else x.Exp) = x.Exp := if_neg hlt
    have hst : ∀ (b : Bool), whX (F_spec_l2C_add_l1 y) fuel (rTup b x.Num x.Exp) = some (.inl (rTup b x.Num x.Exp)) := fun b => stay (by
      rw [add_l1 y _ _ _ x1 x2 x3, decide_eq_false (by omega)]; rfl)
    have hr := fun (b0 : Bool) => raise_both (f := F_spec_l2C_add_l2 x.Exp b0 x.Num.A x.Num.C x.Num.D) (E := x.Exp) x3 (add_l2 _ _ _ _ _) fuel y.Num y.Exp y1 y2 (by omega) (fuel_big (by omega))
    have hcm : ∀ {c : TRing} {oc : Bool}, F_impl_raised y x.Exp = some (c, oc) → rOk c = true → F_impl_AddDyadic x y = (bif true && oc && rOk (rAdd x.Num c) then F_impl_DyadicOf (rAdd x.Num c) x.Exp else some (dZero, false)) := fun h hc =>
      comb_add hx hy hE (stayI x1 x2 x3 (by omega)) h x1 hc
    rcases hr true with ⟨c, c1, c2, c3⟩ | ⟨c1, c, e', c2, c3⟩
    · have hc := hcm (raised_of c3) c1
      have hs : ∀ b, F_spec_l2C_add (cB b) x y = fin b x.Num c x.Exp := fun b => by
        rcases hr b with ⟨c', d1, d2, d3⟩ | ⟨_, c', e', _, d3⟩
        · rw [c3] at d3
          have : c = c' := by cases c; cases c'; simp only [iTup, Option.some.injEq, Sum.inl.injEq, Prod.mk.injEq] at d3; simp only [TRing.mk.injEq]; exact ⟨d3.1, d3.2.1, d3.2.2.1, d3.2.2.2.1⟩
          subst this
          exact spec_add_eq b x y (hst b) (d2 b)
        · rw [c3] at d3
          simp [iTup] at d3
      rcases fin_both (a := x.Num) (c := c) (E := x.Exp) ⟨x2, x3⟩ with ⟨r1, z, z1, z2, z3⟩ | ⟨r1, z1⟩
      · exact .inl ⟨z, z1, fun b => by rw [hs]; exact z2 b, by rw [hc, r1]; exact z3⟩
      · refine .inr ⟨fun b => ?_, by rw [hc, r1]; rfl⟩
        obtain ⟨z, z2, z3⟩ := z1 b
        exact ⟨z, z2, by rw [hs]; exact z3⟩
    · have hc := hcm (raised_of c3) c2
      refine .inr ⟨fun b => ?_, by rw [hc]; rfl⟩
      rcases hr b with ⟨c', d1, d2, d3⟩ | ⟨d1, _⟩
      · rw [c3] at d3; simp [iTup] at d3
      · obtain ⟨c', _, d5⟩ := d1 b
        obtain ⟨z, z2, z3⟩ := fin_bad x.Num c' (E := x.Exp) ⟨x2, x3⟩
        exact ⟨z, z2, by rw [spec_add_eq b x y (hst b) d5]; exact z3⟩

def DM (x y : TDyadic) : Option TDyadic := (F_impl_MulDyadic x y).bind fun p => if p.2 then some p.1 else none
def DA (x y : TDyadic) : Option TDyadic := (F_impl_AddDyadic x y).bind fun p => if p.2 then some p.1 else none
/-- An answer of the program: the number, or zero and false. -/
def dR (o : Option TDyadic) : TDyadic × Bool := match o with | some z => (z, true) | none => (dZero, false)
/-- The specification's step f, from whatever flag, ends in the number o, the flag as it was; or, if there is none, in some number and the flag set. -/
def SP {α : Type} (f : Tl2C → Option (α × Tl2C)) (G : α → Prop) (o : Option α) : Prop :=
  ∀ b, ∃ z b', f (cB b) = some (z, cB b') ∧ G z ∧ ((o = some z ∧ b' = b) ∨ (o = none ∧ b' = true))
theorem SP.bind {α β : Type} {f : Tl2C → Option (α × Tl2C)} {G : α → Prop} {o : Option α} (hf : SP f G o) {h : α → Tl2C → Option (β × Tl2C)} {G' : β → Prop} {o' : α → Option β}
    (hh : ∀ z, G z → SP (h z) G' (o' z)) : SP (fun c => (f c).bind fun p => h p.1 p.2) G' (o.bind o') := fun b => by
  obtain ⟨z, b', h1, h2, h3⟩ := hf b
  obtain ⟨z', b'', h4, h5, h6⟩ := hh z h2 b'
  refine ⟨z', b'', by simp only [h1, Option.bind_some]; exact h4, h5, ?_⟩
  rcases h3 with ⟨rfl, rfl⟩ | ⟨rfl, rfl⟩
  · simpa using h6
  · rcases h6 with ⟨_, h6⟩ | ⟨_, h6⟩
    · exact .inr ⟨rfl, h6⟩
    · exact .inr ⟨rfl, h6⟩
theorem SP.pure {α : Type} {G : α → Prop} {z : α} (h : G z) : SP (fun c => some (z, c)) G (some z) := fun b => ⟨z, b, rfl, h, .inl ⟨rfl, rfl⟩⟩
theorem SP.map {α β : Type} {f : Tl2C → Option (α × Tl2C)} {G : α → Prop} {o : Option α} (hf : SP f G o) {g : α → β} {G' : β → Prop} (hg : ∀ z, G z → G' (g z)) : SP (fun c => (f c).bind fun p => some (g p.1, p.2)) G' (o.map g) := by
  have := hf.bind (h := fun z c => some (g z, c)) (o' := fun z => some (g z)) (fun z hz => SP.pure (hg z hz))
  rwa [Option.map_eq_bind]
theorem spM {x y : TDyadic} (hx : dOk x = true) (hy : dOk y = true) : SP (fun c => F_spec_l2C_mul c x y) (fun z => dOk z = true) (DM x y) := fun b => by
  unfold DM
  rcases mul_both hx hy with ⟨z, h1, h2, h3⟩ | ⟨h1, h2⟩
  · exact ⟨z, b, h2 b, h1, .inl ⟨by rw [h3]; rfl, rfl⟩⟩
  · obtain ⟨z, h3, h4⟩ := h1 b
    exact ⟨z, true, h4, h3, .inr ⟨by rw [h2]; rfl, rfl⟩⟩
theorem spA {x y : TDyadic} (hx : dOk x = true) (hy : dOk y = true) : SP (fun c => F_spec_l2C_add c x y) (fun z => dOk z = true) (DA x y) := fun b => by
  unfold DA
  rcases add_both hx hy with ⟨z, h1, h2, h3⟩ | ⟨h1, h2⟩
  · exact ⟨z, b, h2 b, h1, .inl ⟨by rw [h3]; rfl, rfl⟩⟩
  · obtain ⟨z, h3, h4⟩ := h1 b
    exact ⟨z, true, h4, h3, .inr ⟨by rw [h2]; rfl, rfl⟩⟩
theorem imM {x y : TDyadic} (hx : dOk x = true) (hy : dOk y = true) : F_impl_MulDyadic x y = some (dR (DM x y)) := by
  unfold DM
  rcases mul_both hx hy with ⟨z, h1, h2, h3⟩ | ⟨h1, h2⟩
  · rw [h3]; rfl
  · rw [h2]; rfl
theorem imA {x y : TDyadic} (hx : dOk x = true) (hy : dOk y = true) : F_impl_AddDyadic x y = some (dR (DA x y)) := by
  unfold DA
  rcases add_both hx hy with ⟨z, h1, h2, h3⟩ | ⟨h1, h2⟩
  · rw [h3]; rfl
  · rw [h2]; rfl
theorem dm_ok {x y z : TDyadic} (hx : dOk x = true) (hy : dOk y = true) (h : DM x y = some z) : dOk z = true := by
  unfold DM at h
  rcases mul_both hx hy with ⟨z', h1, h2, h3⟩ | ⟨h1, h2⟩
  · rw [h3] at h; simp at h; rw [← h]; exact h1
  · rw [h2] at h; simp at h
theorem da_ok {x y z : TDyadic} (hx : dOk x = true) (hy : dOk y = true) (h : DA x y = some z) : dOk z = true := by
  unfold DA at h
  rcases add_both hx hy with ⟨z', h1, h2, h3⟩ | ⟨h1, h2⟩
  · rw [h3] at h; simp at h; rw [← h]; exact h1
  · rw [h2] at h; simp at h
theorem dR_ok {o : Option TDyadic} (h : ∀ z, o = some z → dOk z = true) : dOk (dR o).1 = true := by
  cases o with
  | none => exact dZero_ok
  | some z => exact h z rfl
/-- What the specification holds (z, and its flag b') beside the number o (or none): the flag before is b; once it is set, it stays. -/
def SR {α : Type} (G : α → Prop) (o : Option α) (b : Bool) (z : α) (b' : Bool) : Prop := G z ∧ (b = true → b' = true) ∧ (b = false → (o = some z ∧ b' = false) ∨ (o = none ∧ b' = true))
theorem SR.bind {α β : Type} {G : α → Prop} {G' : β → Prop} {o : Option α} {o' : α → Option β} {b b' b'' : Bool} {z : α} {z' : β} (h1 : SR G o b z b') (h2 : SR G' (o' z) b' z' b'') : SR G' (o.bind o') b z' b'' := by
  refine ⟨h2.1, fun h => h2.2.1 (h1.2.1 h), fun h => ?_⟩
  rcases h1.2.2 h with ⟨rfl, rfl⟩ | ⟨rfl, rfl⟩
  · exact h2.2.2 rfl
  · exact .inr ⟨rfl, h2.2.1 rfl⟩
theorem SR.bad {α : Type} {G : α → Prop} {o : Option α} {z : α} {b' : Bool} (h : SR G o true z b') : b' = true := h.2.1 rfl
theorem SR.good {α : Type} {G : α → Prop} {o : Option α} {z : α} {b' : Bool} (h : SR G o false z b') : (o = some z ∧ b' = false) ∨ (o = none ∧ b' = true) := h.2.2 rfl
theorem SR.pure {α : Type} {G : α → Prop} {z : α} {b : Bool} (h : G z) : SR G (some z) b z b := ⟨h, id, fun hb => .inl ⟨rfl, hb⟩⟩
theorem SR.mono {α : Type} {G G' : α → Prop} {o : Option α} {b b' : Bool} {z : α} (h : SR G o b z b') (hg : G z → G' z) : SR G' o b z b' := ⟨hg h.1, h.2⟩
theorem SR.map {α β : Type} {G : α → Prop} {G' : β → Prop} {o : Option α} {b b' : Bool} {z : α} (h : SR G o b z b') (g : α → β) (hg : G z → G' (g z)) : SR G' (o.map g) b (g z) b' := by
  refine ⟨hg h.1, h.2.1, fun hb => ?_⟩
  rcases h.2.2 hb with ⟨rfl, h2⟩ | ⟨rfl, h2⟩
  · exact .inl ⟨rfl, h2⟩
  · exact .inr ⟨rfl, h2⟩
theorem sr_of {α : Type} {f : Tl2C → Option (α × Tl2C)} {G : α → Prop} {o : Option α} (h : SP f G o) (b : Bool) : ∃ z b', f (cB b) = some (z, cB b') ∧ SR G o b z b' := by
  obtain ⟨z, b', h1, h2, h3⟩ := h b
  refine ⟨z, b', h1, h2, fun hb => ?_, fun hb => ?_⟩
  · rcases h3 with ⟨_, h3⟩ | ⟨_, h3⟩
    · exact h3.trans hb
    · exact h3
  · rcases h3 with ⟨h3, h4⟩ | ⟨h3, h4⟩
    · exact .inl ⟨h3, h4.trans hb⟩
    · exact .inr ⟨h3, h4⟩
theorem srM {x y : TDyadic} (hx : dOk x = true) (hy : dOk y = true) (b : Bool) : ∃ z b', F_spec_l2C_mul (cB b) x y = some (z, cB b') ∧ SR (fun z => dOk z = true) (DM x y) b z b' := sr_of (spM hx hy) b
theorem srA {x y : TDyadic} (hx : dOk x = true) (hy : dOk y = true) (b : Bool) : ∃ z b', F_spec_l2C_add (cB b) x y = some (z, cB b') ∧ SR (fun z => dOk z = true) (DA x y) b z b' := sr_of (spA hx hy) b
theorem sr_it {β τ : Type} {f : Nat → τ → Option τ} {enc : Bool → β → τ} {G : Nat → β → Prop} {st : Nat → β → Option β} {n : Nat}
    (hf : ∀ k b s, k < n → G k s → ∃ z b', f k (enc b s) = some (enc b' z) ∧ SR (G (k + 1)) (st k s) b z b') :
    ∀ (m i : Nat) (s : β) (b : Bool), i + m ≤ n → G i s → ∃ z b', forN f m i (enc b s) = some (enc b' z) ∧ SR (G (i + m)) (forN st m i s) b z b'
  | 0, i, s, b, _, hG => ⟨s, b, rfl, SR.pure hG⟩
  | m + 1, i, s, b, hm, hG => by
    obtain ⟨z, b', h1, h2⟩ := hf i b s (by omega) hG
    obtain ⟨z', b'', h3, h4⟩ := sr_it hf m (i + 1) z b' (by omega) h2.1
    rw [show i + 1 + m = i + (m + 1) by omega] at h4
    exact ⟨z', b'', by simp only [forN, h1, Option.bind_some]; exact h3, h2.bind h4⟩
/-- A loop of the specification that stops at its flag. -/
theorem sr_wh {β τ ρ : Type} {f : τ → Option (Ex τ ρ)} {enc : Bool → β → Nat → τ} {G : β → Prop} {st : Nat → β → Option β} {n : Nat}
    (hb : ∀ k s, f (enc true s k) = some (.br (enc true s k))) (hn : ∀ s, f (enc false s n) = some (.br (enc false s n)))
    (hf : ∀ k s, k < n → G s → ∃ z b', f (enc false s k) = some (.nx (enc b' z (k + 1))) ∧ SR G (st k s) false z b') :
    ∀ (q m i : Nat) (s : β) (b : Bool), i + m = n → m < q → G s → ∃ z b' k', whX f q (enc b s i) = some (.inl (enc b' z k')) ∧ SR G (forN st m i s) b z b'
  | 0, _, _, _, _, _, hq, _ => absurd hq (Nat.not_lt_zero _)
  | q + 1, m, i, s, true, _, _, hG => ⟨s, true, i, by simp only [whX, hb, Option.bind_some], hG, fun h => h, fun h => by cases h⟩
  | q + 1, 0, i, s, false, hm, _, hG => by
    have : i = n := by omega
    subst this
    exact ⟨s, false, i, by simp only [whX, hn, Option.bind_some], SR.pure hG⟩
  | q + 1, m + 1, i, s, false, hm, hq, hG => by
    obtain ⟨z, b', h1, h2⟩ := hf i s (by omega) hG
    obtain ⟨z', b'', k', h3, h4⟩ := sr_wh hb hn hf q m (i + 1) z b' (by omega) (by omega) h2.1
    exact ⟨z', b'', k', by simp only [whX, h1, Option.bind_some]; exact h3, h2.bind h4⟩
/-- What a loop that may leave the function ends in. -/
def exO {β τ ρ : Type} (enc : β → τ) (R : ρ) (o : Option β) : τ ⊕ ρ := match o with | some z => .inl (enc z) | none => .inr R
def nxO {β τ ρ : Type} (enc : β → τ) (R : ρ) (o : Option β) : Ex τ ρ := match o with | some z => .nx (enc z) | none => .rt R
theorem im_it {β τ ρ : Type} {g : Nat → τ → Option (Ex τ ρ)} {enc : β → τ} {G : Nat → β → Prop} {st : Nat → β → Option β} {R : ρ} {n : Nat}
    (hg : ∀ k s, k < n → G k s → g k (enc s) = some (nxO enc R (st k s)) ∧ ∀ z, st k s = some z → G (k + 1) z) :
    ∀ (m i : Nat) (s : β), i + m ≤ n → G i s → forX g m i (enc s) = some (exO enc R (forN st m i s)) ∧ ∀ z, forN st m i s = some z → G (i + m) z
  | 0, i, s, _, hG => ⟨rfl, fun z h => by cases h; exact hG⟩
  | m + 1, i, s, hm, hG => by
    obtain ⟨h1, h2⟩ := hg i s (by omega) hG
    cases hs : st i s with
    | none =>
      rw [hs] at h1
      refine ⟨by simp only [forX, h1, nxO, Option.bind_some, forN, hs, Option.bind_none, exO], fun z hz => ?_⟩
      simp only [forN, hs, Option.bind_none] at hz; cases hz
    | some z =>
      rw [hs] at h1
      obtain ⟨h3, h4⟩ := im_it hg m (i + 1) z (by omega) (h2 z hs)
      rw [show i + 1 + m = i + (m + 1) by omega] at h4
      exact ⟨by simp only [forX, h1, nxO, Option.bind_some, forN, hs]; exact h3, fun z' hz => h4 z' (by simpa only [forN, hs, Option.bind_some] using hz)⟩
theorem gI {l : List TDyadic} {x : Int} {n : Nat} (hx : x = (n : Int)) (hn : n < l.length) : getI l x = some (l.getD n dZero) := by
  subst hx; rw [getI_nat, List.getElem?_eq_getElem hn]; simp [hn]
theorem getD_ok {l : List TDyadic} (h : ∀ z ∈ l, dOk z = true) (n : Nat) : dOk (l.getD n dZero) = true := by
  rw [List.getD_eq_getElem?_getD]
  cases hx : l[n]? with
  | none => exact dZero_ok
  | some x => exact h x (List.mem_of_getElem? hx)
def sT (b : Bool) (s : TDyadic) : Bool × Int × Int × Int × Int × Int := (b, s.Num.A, s.Num.B, s.Num.C, s.Num.D, s.Exp)
def iT (s : TDyadic) : Int × Int × Int × Int × Int := (s.Num.A, s.Num.B, s.Num.C, s.Num.D, s.Exp)
/-- One more product onto a sum. -/
def dotS (X Y : Nat → TDyadic) (k : Nat) (s : TDyadic) : Option TDyadic := (DM (X k) (Y k)).bind fun p => DA s p
theorem dot_spec {X Y : Nat → TDyadic} (hX : ∀ k, dOk (X k) = true) (hY : ∀ k, dOk (Y k) = true) (k : Nat) (b : Bool) (s : TDyadic) (hs : dOk s = true) :
    ∃ z b', ((F_spec_l2C_mul (cB b) (X k) (Y k)).bind fun p => (F_spec_l2C_add p.2 s p.1).bind fun q => some (sT q.2.bad q.1)) = some (sT b' z) ∧ SR (fun z => dOk z = true) (dotS X Y k s) b z b' := by
  obtain ⟨z, b', h1, h2⟩ := srM (hX k) (hY k) b
  obtain ⟨z', b'', h3, h4⟩ := srA hs h2.1 b'
  exact ⟨z', b'', by simp only [h1, Option.bind_some, h3]; rfl, h2.bind h4⟩
theorem dot_impl {ρ : Type} {X Y : Nat → TDyadic} (hX : ∀ k, dOk (X k) = true) (hY : ∀ k, dOk (Y k) = true) (R : ρ) (k : Nat) (s : TDyadic) (hs : dOk s = true) :
    ((F_impl_MulDyadic (X k) (Y k)).bind fun p => (F_impl_AddDyadic s p.1).bind fun q => bif (!p.2) || (!q.2) then some (.rt R) else some (.nx (iT q.1))) = some (nxO iT R (dotS X Y k s)) ∧ ∀ z, dotS X Y k s = some z → dOk z = true := by
  unfold dotS
  rw [imM (hX k) (hY k)]
  have ho : dOk (dR (DM (X k) (Y k))).1 = true := dR_ok (fun z hz => dm_ok (hX k) (hY k) hz)
  simp only [Option.bind_some]
  rw [imA hs ho]
  simp only [Option.bind_some]
  cases hm : DM (X k) (Y k) with
  | none => exact ⟨rfl, fun z hz => by cases hz⟩
  | some p =>
    rw [hm] at ho
    simp only [dR, Option.bind_some] at ho ⊢
    cases ha : DA s p with
    | none => exact ⟨rfl, fun z hz => by cases hz⟩
    | some q => exact ⟨rfl, fun z hz => by cases hz; exact da_ok hs ho ha⟩
def okD (l : List TDyadic) : Prop := ∀ z ∈ l, dOk z = true
theorem okD_snoc {l : List TDyadic} {z : TDyadic} (hl : okD l) (hz : dOk z = true) : okD (l ++ [z]) := fun x hx => by
  rcases List.mem_append.1 hx with h | h
  · exact hl x h
  · simp only [List.mem_singleton] at h; subst h; exact hz
theorem bs {α : Type} {b : Bool} {x y : α} : (bif b then some x else some y) = some (bif b then x else y) := by cases b <;> rfl
def dOne : TDyadic := TDyadic.mk (TRing.mk 1 0 0 0) 0
theorem index_eq {l : List TDyadic} {f : TDyadic → Option Bool} {p : TDyadic → Bool} (hl : l.length ≤ 9223372036854775807) (hf : ∀ x, f x = some (p x)) :
    ∃ i, F_slices_IndexFunc_impl_Dyadic_impl_Dyadic l f = some i ∧ decide (0 ≤ i) = l.any p := by
  unfold F_slices_IndexFunc_impl_Dyadic_impl_Dyadic
  rw [chk_t hl]
  rcases forX_any (f := F_slices_IndexFunc_impl_Dyadic_impl_Dyadic_l1 l f) (l := l) (p := p) (q := fun i => (i : Int)) (fun i x hx => by
    unfold F_slices_IndexFunc_impl_Dyadic_impl_Dyadic_l1
    simp only [getI_nat, hx, Option.bind_some, hf, bs]) with ⟨h1, h2⟩ | ⟨h1, i, _, h2⟩
  · rw [h2, h1]; exact ⟨-1, rfl, by decide⟩
  · rw [h2, h1]; exact ⟨i, rfl, by simp⟩
theorem contains_eq {l : List TDyadic} {f : TDyadic → Option Bool} {p : TDyadic → Bool} (hl : l.length ≤ 9223372036854775807) (hf : ∀ x, f x = some (p x)) :
    F_slices_ContainsFunc_impl_Dyadic_impl_Dyadic l f = some (l.any p) := by
  unfold F_slices_ContainsFunc_impl_Dyadic_impl_Dyadic
  obtain ⟨i, h1, h2⟩ := index_eq hl hf
  rw [h1]; simp only [Option.bind_some, h2]
theorem any_not_all {l : List TDyadic} {p : TDyadic → Bool} : (l.any fun x => !p x) = !l.all p := by
  induction l with
  | nil => rfl
  | cons x l ih => simp only [List.any_cons, List.all_cons, ih, Bool.not_and]
def dimB (n : Int) : Bool := [1, 2, 4, 8, 16, 32].any fun x => x == n
theorem dim_le {n : Int} (h : dimB n = true) : 1 ≤ n ∧ n ≤ 32 := by
  unfold dimB at h
  simp only [List.any_cons, List.any_nil, Bool.or_false, Bool.or_eq_true, beq_iff_eq] at h
  omega
theorem dim_small : ∀ k : Fin 33, 1 ≤ k.val → (((decide ((1 : Int) ≤ (k.val : Int))) && (decide ((k.val : Int) ≤ 32))) && ((bits .and .i64 (k.val : Int) (IntKind.i64.wrap ((k.val : Int) - 1))) == 0)) = dimB (k.val : Int) := by decide +kernel
theorem impl_dim (n : Int) : F_impl_isDim n = some (dimB n) := by
  unfold F_impl_isDim F_impl_within
  simp only [Option.bind_some]
  by_cases h : 1 ≤ n ∧ n ≤ 32
  · obtain ⟨k, rfl⟩ : ∃ k : Nat, n = k := ⟨n.toNat, by omega⟩
    exact congrArg some (dim_small ⟨k, by omega⟩ (by simp only; omega))
  · have : dimB n = false := by
      cases hd : dimB n with
      | false => rfl
      | true => exact absurd (dim_le hd) h
    rw [this]
    by_cases h1 : 1 ≤ n
    · rw [decide_eq_false (show ¬ n ≤ 32 by omega)]; simp
    · rw [decide_eq_false h1]; simp
/-- A matrix that is taken. -/
def mOk (m : TMatrix) : Bool := dimB m.Rows && dimB m.Cols && ((m.Cells.length : Int) == m.Rows * m.Cols) && m.Cells.all dOk
theorem mul_le32 {a b : Int} (ha : 1 ≤ a ∧ a ≤ 32) (hb : 1 ≤ b ∧ b ≤ 32) : 0 ≤ a * b ∧ a * b ≤ 1024 := by
  refine ⟨Int.mul_nonneg (by omega) (by omega), ?_⟩
  have := Int.mul_le_mul ha.2 hb.2 (by omega) (by decide : (0 : Int) ≤ 32)
  omega
theorem impl_mgood (m : TMatrix) (hl : m.Cells.length ≤ 9223372036854775807) : F_impl_IsValidMatrix m = some (mOk m) := by
  unfold F_impl_IsValidMatrix mOk
  rw [impl_dim, impl_dim]
  cases h1 : dimB m.Rows with
  | false => rfl
  | true =>
    cases h2 : dimB m.Cols with
    | false => rfl
    | true =>
      have := mul_le32 (dim_le h1) (dim_le h2)
      simp only [Option.bind_some, gb, cond_true, Bool.and_self, Bool.true_and]
      rw [wr (a := m.Rows * m.Cols) (by omega)]
      cases h3 : (m.Cells.length : Int) == m.Rows * m.Cols with
      | false => rfl
      | true =>
        simp only [cond_true]
        rw [contains_eq (p := fun x => !dOk x) hl (fun x => by unfold F_impl_IsValidMatrix_1; simp only [impl_dyadic, Option.bind_some]), any_not_all]
        simp only [Option.bind_some, Bool.not_not, Bool.true_and]
theorem m_parts {m : TMatrix} (h : mOk m = true) : ∃ (R C : Nat) (l : List TDyadic), m = TMatrix.mk R C l ∧ dimB R = true ∧ dimB C = true ∧ (1 ≤ R ∧ R ≤ 32) ∧ (1 ≤ C ∧ C ≤ 32) ∧ l.length = R * C ∧ okD l := by
  obtain ⟨r, c, l⟩ := m
  unfold mOk at h
  simp only [Bool.and_eq_true, beq_iff_eq] at h
  obtain ⟨⟨⟨h1, h2⟩, h3⟩, h4⟩ := h
  have d1 := dim_le h1
  have d2 := dim_le h2
  obtain ⟨R, rfl⟩ : ∃ k : Nat, r = k := ⟨r.toNat, by omega⟩
  obtain ⟨C, rfl⟩ : ∃ k : Nat, c = k := ⟨c.toNat, by omega⟩
  exact ⟨R, C, l, rfl, h1, h2, by omega, by omega, by exact_mod_cast h3, fun z hz => List.all_eq_true.1 h4 z hz⟩
theorem m_make {R C : Nat} {l : List TDyadic} (h1 : dimB R = true) (h2 : dimB C = true) (h3 : l.length = R * C) (h4 : okD l) : mOk (TMatrix.mk R C l) = true := by
  unfold mOk
  simp only [h1, h2, Bool.and_self, Bool.true_and, Bool.and_eq_true, beq_iff_eq]
  exact ⟨by rw [h3]; push_cast; rfl, List.all_eq_true.2 h4⟩
theorem ix_lt {R C i j : Nat} (hi : i < R) (hj : j < C) : i * C + j < R * C := by
  have : (i + 1) * C ≤ R * C := Nat.mul_le_mul_right _ hi
  rw [Nat.add_mul] at this; omega
theorem ix {R C i j : Nat} (hi : i < R) (hj : j < C) (hR : R ≤ 32) (hC : C ≤ 32) : IntKind.i64.wrap (IntKind.i64.wrap ((i : Int) * (C : Int)) + (j : Int)) = ((i * C + j : Nat) : Int) := by
  have h1 := ix_lt hi hj
  have h2 : R * C ≤ 32 * 32 := Nat.mul_le_mul hR hC
  have e : (i : Int) * (C : Int) = ((i * C : Nat) : Int) := by push_cast; rfl
  rw [e, wr (a := ((i * C : Nat) : Int)) (by omega), wr (by omega)]
  omega
def gridO (cell : Nat → Nat → Option TDyadic) (R C : Nat) : Option (List TDyadic) := forN (fun i l => forN (fun j l => (cell i j).bind fun z => some (l ++ [z])) C 0 l) R 0 []
def mmCell (a b : List TDyadic) (K C i j : Nat) : Option TDyadic := forN (dotS (fun k => a.getD (i * K + k) dZero) (fun k => b.getD (k * C + j) dZero)) K 0 dZero
def mmO (a b : List TDyadic) (R K C : Nat) : Option (List TDyadic) := gridO (mmCell a b K C) R C
def wT (b : Bool) (s : TDyadic) (k : Nat) : Bool × Int × Int × Int × Int × Int × Int := (b, s.Num.A, s.Num.B, s.Num.C, s.Num.D, s.Exp, (k : Int))
theorem grid_len {R C i j : Nat} (hi : i < R) (hj : j < C) (hR : R ≤ 32) (hC : C ≤ 32) : i * C + j + 1 ≤ 1024 := by
  have h1 := ix_lt hi hj
  have h2 : R * C ≤ 32 * 32 := Nat.mul_le_mul hR hC
  omega
theorem sp_times {R K C : Nat} {la lb : List TDyadic} (ha : okD la) (hb : okD lb) (na : la.length = R * K) (nb : lb.length = K * C) (hR : R ≤ 32) (hK : K ≤ 32) (hC : C ≤ 32) (c : Bool) :
    ∃ l c', F_spec_l2C_times (cB c) (TMatrix.mk R K la) (TMatrix.mk K C lb) = some (TMatrix.mk R C l, cB c') ∧ SR (fun l => okD l ∧ l.length = R * C) (mmO la lb R K C) c l c' := by
  have l3 : ∀ (i j : Nat) (Cells : List TDyadic) (bad b0 : Bool), i < R → j < C → ∃ z b' k', whX (F_spec_l2C_times_l3 (TMatrix.mk R K la) Cells i (TMatrix.mk K C lb) j bad) fuel (wT b0 dZero 0) = some (.inl (wT b' z k')) ∧ SR (fun z => dOk z = true) (mmCell la lb K C i j) b0 z b' := fun i j Cells bad b0 hi hj => by
    refine sr_wh (enc := wT) (G := fun z => dOk z = true) (n := K) (fun k s => ?_) (fun s => ?_) (fun k s hk hs => ?_) fuel K 0 dZero b0 (by omega) (fuel_big (by omega)) dZero_ok
    · unfold F_spec_l2C_times_l3 wT
      simp only [Bool.not_true, Bool.and_false, cond_false]
    · unfold F_spec_l2C_times_l3 wT
      simp only [Int.lt_irrefl, decide_false, Bool.false_and, cond_false]
    · obtain ⟨z, b', h1, h2⟩ := dot_spec (X := fun k => la.getD (i * K + k) dZero) (Y := fun k => lb.getD (k * C + j) dZero) (fun _ => getD_ok ha _) (fun _ => getD_ok hb _) k false s hs
      obtain ⟨p, hp, h1⟩ := Option.bind_eq_some_iff.1 h1
      obtain ⟨q, hq, h1⟩ := Option.bind_eq_some_iff.1 h1
      refine ⟨z, b', ?_, h2⟩
      unfold F_spec_l2C_times_l3 wT
      simp only
      rw [decide_eq_true (show (k : Int) < (K : Int) by omega), ix hi hk hR hK, ix hk hj hK hC, gI (n := i * K + k) rfl (by rw [na]; exact ix_lt hi hk), gI (n := k * C + j) rfl (by rw [nb]; exact ix_lt hk hj)]
      simp only [Bool.not_false, Bool.and_self, cond_true, Option.bind_some]
      rw [show F_spec_l2C_mul (Tl2C.mk false) (la.getD (i * K + k) dZero) (lb.getD (k * C + j) dZero) = some p from hp]
      simp only [Option.bind_some]
      rw [show F_spec_l2C_add p.2 (TDyadic.mk (TRing.mk s.Num.A s.Num.B s.Num.C s.Num.D) s.Exp) p.1 = some q from hq]
      simp only [Option.bind_some]
      have := Option.some.inj h1
      simp only [sT, Prod.mk.injEq] at this
      obtain ⟨t0, t1, t2, t3, t4, t5⟩ := this
      rw [t0, t1, t2, t3, t4, t5, wr (a := (k : Int) + 1) (by omega)]
      rfl
  have l2 : ∀ (i : Nat) (Cells : List TDyadic) (bad b0 : Bool) (l : List TDyadic), i < R → okD l → l.length = i * C → ∃ z b', forN (F_spec_l2C_times_l2 (TMatrix.mk R K la) Cells i (TMatrix.mk K C lb) bad) C 0 (b0, l) = some (b', z) ∧ SR (fun z => okD z ∧ z.length = i * C + C) (forN (fun j l => (mmCell la lb K C i j).bind fun z => some (l ++ [z])) C 0 l) b0 z b' := fun i Cells bad b0 l hi hl hll => by
    have := sr_it (f := F_spec_l2C_times_l2 (TMatrix.mk R K la) Cells i (TMatrix.mk K C lb) bad) (enc := fun b (l : List TDyadic) => (b, l)) (G := fun j z => okD z ∧ z.length = i * C + j) (st := fun j l => (mmCell la lb K C i j).bind fun z => some (l ++ [z])) (n := C) (fun j b1 s hj hs => ?_) C 0 l b0 (by omega) ⟨hl, by omega⟩
    · rw [Nat.zero_add] at this; exact this
    · obtain ⟨z, b', k', h1, h2⟩ := l3 i j Cells bad b1 hi hj
      refine ⟨s ++ [z], b', ?_, h2.bind (SR.pure ⟨okD_snoc hs.1 h2.1, by simp; omega⟩)⟩
      unfold F_spec_l2C_times_l2
      simp only
      rw [show whX (F_spec_l2C_times_l3 (TMatrix.mk R K la) Cells i (TMatrix.mk K C lb) j bad) fuel (b1, 0, 0, 0, 0, 0, 0) = _ from h1]
      simp only [wT, Option.bind_some, orR]
      have := grid_len hi hj hR hC
      rw [chk_t (by omega)]
  obtain ⟨z, b', h1, h2⟩ := sr_it (f := F_spec_l2C_times_l1 (TMatrix.mk K C lb) (TMatrix.mk R K la)) (enc := fun b (l : List TDyadic) => (b, l)) (G := fun i z => okD z ∧ z.length = i * C) (st := fun i l => forN (fun j l => (mmCell la lb K C i j).bind fun z => some (l ++ [z])) C 0 l) (n := R) (fun i b1 s hi hs => by
    obtain ⟨z, b', h1, h2⟩ := l2 i s b1 b1 s hi hs.1 hs.2
    refine ⟨z, b', ?_, h2.mono (fun h => ⟨h.1, by rw [Nat.add_mul]; omega⟩)⟩
    unfold F_spec_l2C_times_l1
    simp only [Int.toNat_natCast]
    rw [chk_t (by omega), h1]; rfl) R 0 [] c (by omega) ⟨fun _ h => (by cases h), by simp⟩
  refine ⟨z, b', ?_, h2.mono (fun h => ⟨h.1, by simpa using h.2⟩)⟩
  unfold F_spec_l2C_times
  simp only [Int.toNat_natCast]
  rw [chk_t (by omega), show forN (F_spec_l2C_times_l1 (TMatrix.mk K C lb) (TMatrix.mk R K la)) R 0 ((cB c).bad, []) = _ from h1]
  rfl
def mR (R C : Nat) (o : Option (List TDyadic)) : TMatrix × Bool := match o with | some l => (TMatrix.mk R C l, true) | none => (TMatrix.mk 0 0 [], false)
theorem im_matrixOf {R C : Nat} {cell : Int → Int → Option (TDyadic × Bool)} {cellO : Nat → Nat → Option TDyadic} (dR' : dimB R = true) (dC : dimB C = true) (hR : R ≤ 32) (hC : C ≤ 32)
    (hcell : ∀ i j : Nat, i < R → j < C → cell i j = some (dR (cellO i j)) ∧ ∀ z, cellO i j = some z → dOk z = true) :
    F_impl_matrixOf R C cell = some (mR R C (gridO cellO R C)) ∧ ∀ l, gridO cellO R C = some l → okD l ∧ l.length = R * C := by
  have l2 : ∀ (i : Nat) (l : List TDyadic), i < R → okD l → l.length = i * C → forX (F_impl_matrixOf_l2 cell i) C 0 l = some (exO id (.rt (TMatrix.mk 0 0 [], false)) (forN (fun j l => (cellO i j).bind fun z => some (l ++ [z])) C 0 l)) ∧
      ∀ z, forN (fun j l => (cellO i j).bind fun z => some (l ++ [z])) C 0 l = some z → okD z ∧ z.length = i * C + C := fun i l hi hl hll => by
    have := im_it (g := F_impl_matrixOf_l2 cell i) (enc := id) (G := fun j z => okD z ∧ z.length = i * C + j) (st := fun j l => (cellO i j).bind fun z => some (l ++ [z])) (R := Ex.rt (TMatrix.mk 0 0 [], false)) (n := C) (fun j s hj hs => ?_) C 0 l (by omega) ⟨hl, by omega⟩
    · rw [Nat.zero_add] at this; exact this
    · obtain ⟨h1, h2⟩ := hcell i j hi hj
      unfold F_impl_matrixOf_l2
      simp only [id, h1, Option.bind_some]
      cases hc : cellO i j with
      | none => exact ⟨rfl, fun z hz => by cases hz⟩
      | some z =>
        simp only [dR, Bool.not_true, cond_false, Option.bind_some]
        have := grid_len hi hj hR hC
        rw [chk_t (by omega)]
        exact ⟨rfl, fun z' hz => by cases hz; exact ⟨okD_snoc hs.1 (h2 z hc), by simp; omega⟩⟩
  obtain ⟨h1, h2⟩ := im_it (g := F_impl_matrixOf_l1 C cell) (enc := id) (G := fun i z => okD z ∧ z.length = i * C) (st := fun i l => forN (fun j l => (cellO i j).bind fun z => some (l ++ [z])) C 0 l) (R := (TMatrix.mk 0 0 [], false)) (n := R) (fun i s hi hs => by
    obtain ⟨h1, h2⟩ := l2 i s hi hs.1 hs.2
    unfold F_impl_matrixOf_l1
    simp only [id, Int.toNat_natCast]
    rw [chk_t (by omega), h1]
    cases hc : forN (fun j l => (cellO i j).bind fun z => some (l ++ [z])) C 0 s with
    | none => exact ⟨rfl, fun z hz => by cases hz⟩
    | some z => exact ⟨rfl, fun z' hz => by cases hz; obtain ⟨q1, q2⟩ := h2 z hc; exact ⟨q1, by rw [Nat.add_mul]; omega⟩⟩) R 0 [] (by omega) ⟨fun _ h => (by cases h), by simp⟩
  refine ⟨?_, fun l hl => by have := h2 l hl; simpa using this⟩
  unfold F_impl_matrixOf
  rw [impl_dim, impl_dim, dR', dC]
  simp only [Option.bind_some, gb, Bool.not_true, Bool.not_false, cond_true, Bool.or_self, cond_false, Int.toNat_natCast]
  rw [chk_t (by omega), show forX (F_impl_matrixOf_l1 C cell) R 0 [] = _ from h1]
  unfold gridO
  cases forN (fun i l => forN (fun j l => (cellO i j).bind fun z => some (l ++ [z])) C 0 l) R 0 [] <;> rfl
theorem im_at {R C : Nat} {l : List TDyadic} {i j : Nat} (hi : i < R) (hj : j < C) (hR : R ≤ 32) (hC : C ≤ 32) (hl : l.length = R * C) : F_impl_Matrix_at (TMatrix.mk R C l) i j = some (l.getD (i * C + j) dZero) := by
  unfold F_impl_Matrix_at
  simp only
  rw [ix hi hj hR hC, gI (n := i * C + j) rfl (by rw [hl]; exact ix_lt hi hj)]
  rfl
theorem im_mul {R K C : Nat} {la lb : List TDyadic} (ma : mOk (TMatrix.mk R K la) = true) (mb : mOk (TMatrix.mk K C lb) = true) :
    F_impl_MulMatrix (TMatrix.mk R K la) (TMatrix.mk K C lb) = some (mR R C (mmO la lb R K C)) ∧ ∀ l, mmO la lb R K C = some l → okD l ∧ l.length = R * C := by
  obtain ⟨R', K', la', e, a1, a2, a3, a4, a5, a6⟩ := m_parts ma
  obtain ⟨h, h', rfl⟩ := TMatrix.mk.inj e
  obtain rfl : R = R' := by omega
  obtain rfl : K = K' := by omega
  obtain ⟨K', C', lb', e, b1, b2, b3, b4, b5, b6⟩ := m_parts mb
  obtain ⟨h, h', rfl⟩ := TMatrix.mk.inj e
  obtain rfl : K = K' := by omega
  obtain rfl : C = C' := by omega
  have l5 : la.length ≤ 1024 := by rw [a5]; exact Nat.mul_le_mul a3.2 a4.2
  have l6 : lb.length ≤ 1024 := by rw [b5]; exact Nat.mul_le_mul b3.2 b4.2
  have hc : ∀ i j : Nat, i < R → j < C → F_impl_MulMatrix_1 i j (TMatrix.mk R K la) (TMatrix.mk K C lb) = some (dR (mmCell la lb K C i j)) ∧ ∀ z, mmCell la lb K C i j = some z → dOk z = true := fun i j hi hj => by
    obtain ⟨h1, h2⟩ := im_it (g := F_impl_MulMatrix_1_l1 (TMatrix.mk R K la) i (TMatrix.mk K C lb) j) (enc := iT) (G := fun _ z => dOk z = true) (st := dotS (fun k => la.getD (i * K + k) dZero) (fun k => lb.getD (k * C + j) dZero)) (R := (dZero, false)) (n := K) (fun k s hk hs => by
      have := dot_impl (X := fun k => la.getD (i * K + k) dZero) (Y := fun k => lb.getD (k * C + j) dZero) (fun _ => getD_ok a6 _) (fun _ => getD_ok b6 _) (dZero, false) k s hs
      refine ⟨?_, this.2⟩
      rw [← this.1]
      unfold F_impl_MulMatrix_1_l1 iT
      simp only
      rw [im_at hi hk a3.2 a4.2 a5, im_at hk hj b3.2 b4.2 b5]
      rfl) K 0 dZero (by omega) dZero_ok
    refine ⟨?_, h2⟩
    unfold F_impl_MulMatrix_1
    simp only [Int.toNat_natCast]
    rw [chk_t (by omega), show forX (F_impl_MulMatrix_1_l1 (TMatrix.mk R K la) i (TMatrix.mk K C lb) j) K 0 (0, 0, 0, 0, 0) = _ from h1]
    unfold mmCell
    cases forN (dotS (fun k => la.getD (i * K + k) dZero) (fun k => lb.getD (k * C + j) dZero)) K 0 dZero <;> rfl
  obtain ⟨h1, h2⟩ := im_matrixOf (cell := fun x_0 x_1 => F_impl_MulMatrix_1 x_0 x_1 (TMatrix.mk R K la) (TMatrix.mk K C lb)) (cellO := mmCell la lb K C) a1 b2 a3.2 b4.2 hc
  refine ⟨?_, h2⟩
  unfold F_impl_MulMatrix
  rw [impl_mgood _ (by simp only; omega), impl_mgood _ (by simp only; omega), ma, mb]
  simp only [Option.bind_some, gb, Bool.not_true, Bool.not_false, cond_true, Bool.or_self, Bool.false_or, bne_self_eq_false, cond_false]
  rw [h1]; rfl

theorem forN_eq {σ : Type} {f g : Nat → σ → Option σ} {G : Nat → σ → Prop} {n : Nat} (h : ∀ k s, k < n → G k s → f k s = g k s ∧ ∀ z, g k s = some z → G (k + 1) z) :
    ∀ (m i : Nat) (s : σ), i + m ≤ n → G i s → forN f m i s = forN g m i s
  | 0, _, _, _, _ => rfl
  | m + 1, i, s, hm, hG => by
    obtain ⟨h1, h2⟩ := h i s (by omega) hG
    simp only [forN, h1]
    cases hs : g i s with
    | none => rfl
    | some z => simp only [Option.bind_some]; exact forN_eq h m (i + 1) z (by omega) (h2 z hs)
/-- A row of cells that are all there. -/
theorem grid_pure {f : Nat → Nat → TDyadic} (R C : Nat) (hf : ∀ i j, i < R → j < C → dOk (f i j) = true) : ∃ l, gridO (fun i j => some (f i j)) R C = some l ∧ okD l ∧ l.length = R * C := by
  obtain ⟨l, h1, h2, h3⟩ := forN_inv (f := fun i l => forN (fun j l => (some (f i j)).bind fun z => some (l ++ [z])) C 0 l) (fun i z => okD z ∧ z.length = i * C) R 0 [] ⟨fun _ h => (by cases h), by simp⟩ (fun i s _ hi hs => by
    obtain ⟨l, h1, h2, h3⟩ := forN_inv (f := fun j l => (some (f i j)).bind fun z => some (l ++ [z])) (fun j z => okD z ∧ z.length = i * C + j) C 0 s ⟨hs.1, by rw [hs.2]; rfl⟩ (fun j s _ hj hs => ⟨_, rfl, okD_snoc hs.1 (hf i j (by omega) (by omega)), by simp [hs.2]; omega⟩)
    exact ⟨l, h1, h2, by rw [h3, Nat.add_mul]; omega⟩)
  exact ⟨l, h1, h2, by simpa using h3⟩
def unitL (n : Nat) : List TDyadic := (List.range (n * n)).map fun p => if p / n = p % n then dOne else dZero
theorem unit_spec : ∀ n ∈ [1, 2, 4, 8, 16, 32], F_spec_l3Unit ((n : Nat) : Int) = some (TMatrix.mk (n : Nat) (n : Nat) (unitL n)) := by decide +kernel
theorem unit_impl : ∀ n ∈ [1, 2, 4, 8, 16, 32], F_impl_IdentityMatrix ((n : Nat) : Int) = some (TMatrix.mk (n : Nat) (n : Nat) (unitL n), true) := by decide +kernel
theorem dim_mem {n : Nat} (h : dimB (n : Int) = true) : n ∈ [1, 2, 4, 8, 16, 32] := by
  unfold dimB at h
  simp only [List.any_cons, List.any_nil, Bool.or_false, Bool.or_eq_true, beq_iff_eq] at h
  simp only [List.mem_cons, List.not_mem_nil, or_false]
  omega
theorem unit_len (n : Nat) : (unitL n).length = n * n := by simp [unitL]
theorem unit_ok (n : Nat) : okD (unitL n) := fun z hz => by
  simp only [unitL, List.mem_map] at hz
  obtain ⟨p, _, rfl⟩ := hz
  split
  · decide
  · decide
/-- A gate that is taken, over n wires. -/
def gOk (n : Int) (g : TGate) : Bool :=
  bif decide (1 ≤ g.Kind) && decide (g.Kind ≤ 8) then decide (0 ≤ g.A) && decide (g.A ≤ n - 1) && (g.B == 0)
  else bif decide (9 ≤ g.Kind) && decide (g.Kind ≤ 11) then decide (0 ≤ g.A) && decide (g.A ≤ n - 1) && (decide (0 ≤ g.B) && decide (g.B ≤ n - 1)) && (g.A != g.B)
  else (g.Kind == 12) && (g.A == 0) && (g.B == 0)
theorem spec_gate {n : Int} (hn : 1 ≤ n ∧ n ≤ 5) (g : TGate) : F_spec_l4Gate n g = some (gOk n g) := by
  unfold F_spec_l4Gate F_spec_l1In gOk
  rw [wrap_i64 (a := n - 1) ⟨by omega, by omega⟩]
  simp only [Option.bind_some, gb]
  cases decide (1 ≤ g.Kind) && decide (g.Kind ≤ 8) <;> cases decide (9 ≤ g.Kind) && decide (g.Kind ≤ 11) <;> simp only [cond_true, cond_false, Option.bind_some]
  all_goals cases decide (0 ≤ g.A) && decide (g.A ≤ n - 1) <;> simp
theorem impl_gate {n : Int} (hn : 1 ≤ n ∧ n ≤ 5) (g : TGate) : F_impl_IsValidGate n g = some (gOk n g) := by
  unfold F_impl_IsValidGate F_impl_isTwo F_impl_within gOk
  rw [wrap_i64 (a := n - 1) ⟨by omega, by omega⟩]
  have h1 : decide (1 ≤ n) = true := decide_eq_true hn.1
  have h5 : decide (n ≤ 5) = true := decide_eq_true hn.2
  simp only [Option.bind_some, gb, h1, h5, Bool.and_self, Bool.not_true, Bool.not_false, cond_true, Bool.false_or]
  by_cases hk : 1 ≤ g.Kind ∧ g.Kind ≤ 12
  · have e1 : (decide (1 ≤ g.Kind) && decide (g.Kind ≤ 12)) = true := by simp [hk]
    simp only [e1, Bool.not_true, cond_false]
    by_cases h12 : g.Kind = 12
    · simp [h12]
    · have e12 : (g.Kind == 12) = false := by simp [h12]
      simp only [e12, cond_false]
      by_cases h9 : 9 ≤ g.Kind
      · have a1 : (decide (9 ≤ g.Kind) && decide (g.Kind ≤ 11)) = true := by simp; omega
        have a2 : (decide (1 ≤ g.Kind) && decide (g.Kind ≤ 8)) = false := by simp; omega
        simp only [a1, a2, cond_true, cond_false]
        cases decide (0 ≤ g.A) && decide (g.A ≤ n - 1) <;> simp
      · have a1 : (decide (9 ≤ g.Kind) && decide (g.Kind ≤ 11)) = false := by simp; omega
        have a2 : (decide (1 ≤ g.Kind) && decide (g.Kind ≤ 8)) = true := by simp; omega
        simp only [a1, a2, cond_true, cond_false]
  · have e1 : (decide (1 ≤ g.Kind) && decide (g.Kind ≤ 12)) = false := by simp; omega
    have a1 : (decide (9 ≤ g.Kind) && decide (g.Kind ≤ 11)) = false := by simp; omega
    have a2 : (decide (1 ≤ g.Kind) && decide (g.Kind ≤ 8)) = false := by simp; omega
    have a3 : (g.Kind == 12) = false := by simp; omega
    simp [e1, a1, a2, a3]
/-- A circuit that is taken. -/
def cOk (c : TCircuit) : Bool := decide (1 ≤ c.Qubits) && decide (c.Qubits ≤ 5) && decide (c.Gates.length ≤ 400) && c.Gates.all (gOk c.Qubits)
theorem spec_good (c : TCircuit) : F_spec_l4Good c = some (cOk c) := by
  unfold F_spec_l4Good F_spec_l1In cOk
  simp only [Option.bind_some]
  by_cases hn : 1 ≤ c.Qubits ∧ c.Qubits ≤ 5
  · by_cases hl : c.Gates.length ≤ 400
    · have e : (!(decide (1 ≤ c.Qubits) && decide (c.Qubits ≤ 5)) || decide ((400 : Int) < (c.Gates.length : Int))) = false := by simp [hn]; omega
      rw [e, cond_false, chk_t (by omega)]
      rcases forX_any (f := F_spec_l4Good_l1 c) (l := c.Gates) (p := fun g => !gOk c.Qubits g) (q := fun _ => false) (fun i x hx => by
        unfold F_spec_l4Good_l1; simp only [getI_nat, hx, Option.bind_some, spec_gate hn]; cases gOk c.Qubits x <;> rfl) with ⟨h1, h2⟩ | ⟨h1, i, _, h2⟩
      · rw [h2]
        have : c.Gates.all (gOk c.Qubits) = true := by rw [List.all_eq_true]; intro x hx; have := List.any_eq_false.1 h1 x hx; simpa using this
        simp [orR, hn, hl, this]
      · rw [h2]
        have : c.Gates.all (gOk c.Qubits) = false := by
          obtain ⟨x, hx, hp⟩ := List.any_eq_true.1 h1
          rw [List.all_eq_false]; exact ⟨x, hx, by simpa using hp⟩
        simp [orR, this]
    · have e : (!(decide (1 ≤ c.Qubits) && decide (c.Qubits ≤ 5)) || decide ((400 : Int) < (c.Gates.length : Int))) = true := by simp; omega
      rw [e, cond_true]
      simp [hl]
  · have e : (!(decide (1 ≤ c.Qubits) && decide (c.Qubits ≤ 5)) || decide ((400 : Int) < (c.Gates.length : Int))) = true := by simp; omega
    rw [e, cond_true]
    have : (decide (1 ≤ c.Qubits) && decide (c.Qubits ≤ 5)) = false := by simp; omega
    simp [this]
theorem impl_good (c : TCircuit) (hlen : c.Gates.length ≤ 1048576) : F_impl_IsValidCircuit c = some (cOk c) := by
  unfold F_impl_IsValidCircuit F_impl_within cOk
  simp only [Option.bind_some]
  by_cases hn : 1 ≤ c.Qubits ∧ c.Qubits ≤ 5
  · by_cases hl : c.Gates.length ≤ 400
    · have e : (decide (1 ≤ c.Qubits) && decide (c.Qubits ≤ 5) && decide ((c.Gates.length : Int) ≤ 400)) = true := by simp [hn]; omega
      rw [e]
      have hf : ∀ i x, c.Gates[i]? = some x → F_slices_IndexFunc_impl_Gate_impl_Gate_l1 c.Gates (fun x_0 => F_impl_IsValidCircuit_1 x_0 c) i () = some (bif !gOk c.Qubits x then .rt (i : Int) else .nx ()) := fun i x hx => by
        unfold F_slices_IndexFunc_impl_Gate_impl_Gate_l1 F_impl_IsValidCircuit_1
        simp only [getI_nat, hx, Option.bind_some, impl_gate hn]
        cases gOk c.Qubits x <;> rfl
      unfold F_slices_ContainsFunc_impl_Gate_impl_Gate F_slices_IndexFunc_impl_Gate_impl_Gate
      rw [chk_t (by omega)]
      rcases forX_any hf with ⟨h1, h2⟩ | ⟨h1, i, _, h2⟩
      · rw [h2]
        have : c.Gates.all (gOk c.Qubits) = true := by rw [List.all_eq_true]; intro x hx; have := List.any_eq_false.1 h1 x hx; simpa using this
        simp [orR, hn, hl, this, gb]
      · rw [h2]
        have : c.Gates.all (gOk c.Qubits) = false := by
          obtain ⟨x, hx, hp⟩ := List.any_eq_true.1 h1
          rw [List.all_eq_false]; exact ⟨x, hx, by simpa using hp⟩
        simp [orR, this, gb]
    · have e : (decide (1 ≤ c.Qubits) && decide (c.Qubits ≤ 5) && decide ((c.Gates.length : Int) ≤ 400)) = false := by simp; omega
      rw [e]
      simp [gb, hl]
  · have this : (decide (1 ≤ c.Qubits) && decide (c.Qubits ≤ 5)) = false := by simp; omega
    simp [gb, this]
theorem gOk_cases {n : Int} {g : TGate} (h : gOk n g = true) : (1 ≤ g.Kind ∧ g.Kind ≤ 8 ∧ 0 ≤ g.A ∧ g.A ≤ n - 1) ∨ (9 ≤ g.Kind ∧ g.Kind ≤ 11 ∧ 0 ≤ g.A ∧ g.A ≤ n - 1 ∧ 0 ≤ g.B ∧ g.B ≤ n - 1 ∧ g.A ≠ g.B) ∨ g.Kind = 12 := by
  unfold gOk at h
  by_cases h1 : 1 ≤ g.Kind ∧ g.Kind ≤ 8
  · have e : (decide (1 ≤ g.Kind) && decide (g.Kind ≤ 8)) = true := by simp [h1]
    rw [e, cond_true] at h
    simp at h
    exact .inl ⟨h1.1, h1.2, h.1.1, h.1.2⟩
  · have e : (decide (1 ≤ g.Kind) && decide (g.Kind ≤ 8)) = false := by simp; omega
    rw [e, cond_false] at h
    by_cases h2 : 9 ≤ g.Kind ∧ g.Kind ≤ 11
    · have e : (decide (9 ≤ g.Kind) && decide (g.Kind ≤ 11)) = true := by simp [h2]
      rw [e, cond_true] at h
      simp at h
      exact .inr (.inl ⟨h2.1, h2.2, h.1.1.1, h.1.1.2, h.1.2.1, h.1.2.2, h.2⟩)
    · have e : (decide (9 ≤ g.Kind) && decide (g.Kind ≤ 11)) = false := by simp; omega
      rw [e, cond_false] at h
      simp at h
      exact .inr (.inr h.1.1)
def bi (i s : Nat) : Nat := (i >>> s) % 2
def fl (i s : Nat) : Nat := i ^^^ (2 ^ s)
theorem bit_small : ∀ (i : Fin 32) (s : Fin 5), bits .and .i64 (shrK .i64 (i.val : Int) (s.val : Int)) 1 = ((bi i.val s.val : Nat) : Int) := by decide +kernel
theorem fl_small : ∀ (i : Fin 32) (s : Fin 5), bits .xor .i64 (i.val : Int) (shlK .i64 1 (s.val : Int)) = ((fl i.val s.val : Nat) : Int) ∧ fl i.val s.val < 32 := by decide +kernel
theorem an_small : ∀ (r c : Fin 32) (s : Fin 5), (bits .andNot .i64 (bits .xor .i64 (r.val : Int) (c.val : Int)) (shlK .i64 1 (s.val : Int)) != 0) = !(decide (r.val = c.val) || decide (fl r.val s.val = c.val)) := by decide +kernel
theorem cx_small : ∀ (i j : Fin 32) (a b : Fin 5), a.val ≠ b.val → decide (i.val = if bi j.val a.val = 1 then fl j.val b.val else j.val) = decide ((if bi i.val a.val = 1 then fl i.val b.val else i.val) = j.val) := by decide +kernel
theorem sw_small : ∀ (i j : Fin 32) (a b : Fin 5), a.val ≠ b.val → decide (i.val = if bi j.val a.val ≠ bi j.val b.val then fl (fl j.val a.val) b.val else j.val) = decide ((if bi i.val a.val ≠ bi i.val b.val then fl (fl i.val a.val) b.val else i.val) = j.val) := by decide +kernel
def phD (k : Int) : TDyadic := (F_impl_phase k).getD dZero
theorem ph_small : ∀ k : Fin 9, F_spec_l2Power (k.val : Int) = some (phD k.val) ∧ F_impl_phase (k.val : Int) = some (phD k.val) ∧ dOk (phD k.val) = true := by decide +kernel
theorem bi_lt (i s : Nat) : bi i s < 2 := Nat.mod_lt _ (by decide)
def enD (k : Int) (a b : Nat) : TDyadic := (F_impl_entry k a b).getD dZero
theorem en_small : ∀ (k : Fin 9) (a b : Fin 2), 1 ≤ k.val → F_impl_entry (k.val : Int) (a.val : Int) (b.val : Int) = some (enD k.val a.val b.val) ∧
    ((F_spec_l6One (k.val : Int)).bind fun l => getI l (IntKind.i64.wrap (IntKind.i64.wrap (2 * (a.val : Int)) + (b.val : Int)))) = some (enD k.val a.val b.val) ∧ dOk (enD k.val a.val b.val) = true := by decide +kernel
theorem wru {a : Int} (h : 0 ≤ a ∧ a ≤ 9000000000000000000) : IntKind.u64.wrap a = a := by
  simp [IntKind.wrap, IntKind.signed, IntKind.bits]
  omega
section
variable {n a i : Nat}
theorem sp_bit (hn : n ≤ 5) (ha : a < n) (hi : i < 32) : F_spec_l6Bit n i a = some ((bi i (n - 1 - a) : Nat) : Int) := by
  unfold F_spec_l6Bit
  rw [wr (a := (n : Int) - 1) (by omega), wr (a := (n : Int) - 1 - a) (by omega), wru (a := (n : Int) - 1 - a) (by omega), chk_t (by omega), show (n : Int) - 1 - a = ((n - 1 - a : Nat) : Int) by omega]
  exact congrArg some (bit_small ⟨i, hi⟩ ⟨n - 1 - a, by omega⟩)
theorem im_bit (hn : n ≤ 5) (ha : a < n) (hi : i < 32) : F_impl_bitOf n i a = some ((bi i (n - 1 - a) : Nat) : Int) := by
  unfold F_impl_bitOf
  rw [wr (a := (n : Int) - 1) (by omega), wr (a := (n : Int) - 1 - a) (by omega), chk_t (by omega), show (n : Int) - 1 - a = ((n - 1 - a : Nat) : Int) by omega]
  exact congrArg some (bit_small ⟨i, hi⟩ ⟨n - 1 - a, by omega⟩)
theorem im_flip (hn : n ≤ 5) (ha : a < n) (hi : i < 32) : F_impl_flipped n i a = some ((fl i (n - 1 - a) : Nat) : Int) := by
  unfold F_impl_flipped
  rw [wr (a := (n : Int) - 1) (by omega), wr (a := (n : Int) - 1 - a) (by omega), chk_t (by omega), show (n : Int) - 1 - a = ((n - 1 - a : Nat) : Int) by omega]
  exact congrArg some (fl_small ⟨i, hi⟩ ⟨n - 1 - a, by omega⟩).1
theorem fl_lt (hn : n ≤ 5) (ha : a < n) (hi : i < 32) : fl i (n - 1 - a) < 32 := (fl_small ⟨i, hi⟩ ⟨n - 1 - a, by omega⟩).2
end
theorem ibeq (i j : Nat) : ((i : Int) == (j : Int)) = decide (i = j) := by
  rw [Bool.eq_iff_iff, beq_iff_eq, decide_eq_true_eq]; omega
theorem ibne (i j : Nat) : ((i : Int) != (j : Int)) = !decide (i = j) := by
  unfold bne; rw [ibeq]
theorem one_beq (i : Nat) : ((i : Int) == 1) = decide (i = 1) := ibeq i 1
theorem phk {k : Nat} (h : k < 9) : F_spec_l2Power (k : Int) = some (phD k) ∧ F_impl_phase (k : Int) = some (phD k) ∧ dOk (phD k) = true := ph_small ⟨k, h⟩
theorem sel_ok (b : Bool) {x : TDyadic} (h : dOk x = true) : dOk (bif b then x else dZero) = true := by cases b; exact dZero_ok; exact h
theorem bsomeT {b : Bool} {x : TDyadic} : (bif b then some x else some (TDyadic.mk (TRing.mk 0 0 0 0) 0)) = some (bif b then x else dZero) := by cases b <;> rfl
/-- A cell of a gate's matrix: both say the same. -/
theorem cell_both {n : Nat} (hn : 1 ≤ n ∧ n ≤ 5) {g : TGate} (hg : gOk n g = true) {i j : Nat} (hi : i < 32) (hj : j < 32) :
    ∃ z, F_spec_l6Cell n g i j = some z ∧ F_impl_GateMatrix_1 i j g n = some (z, true) ∧ dOk z = true := by
  obtain ⟨p0, q0, o0⟩ := phk (k := 0) (by decide)
  obtain ⟨p1, q1, o1⟩ := phk (k := 1) (by decide)
  obtain ⟨p4, q4, o4⟩ := phk (k := 4) (by decide)
  have p0 : F_spec_l2Power 0 = some (phD 0) := p0
  have p1 : F_spec_l2Power 1 = some (phD 1) := p1
  have q1 : F_impl_phase 1 = some (phD 1) := q1
  have p4 : F_spec_l2Power 4 = some (phD 4) := p4
  unfold F_spec_l6Cell F_impl_GateMatrix_1
  rw [p0]
  simp only [Option.bind_some]
  rcases gOk_cases hg with ⟨k1, k2, a1, a2⟩ | ⟨k1, k2, a1, a2, b1, b2, hab⟩ | hk
  · -- on one wire
    obtain ⟨k, hk⟩ : ∃ k : Nat, g.Kind = k := ⟨g.Kind.toNat, by omega⟩
    obtain ⟨a, ha⟩ : ∃ a : Nat, g.A = a := ⟨g.A.toNat, by omega⟩
    have e12 : (g.Kind == 12) = false := by rw [hk]; exact decide_eq_false (by omega)
    have e9 : (g.Kind == 9) = false := by rw [hk]; exact decide_eq_false (by omega)
    have e10 : (g.Kind == 10) = false := by rw [hk]; exact decide_eq_false (by omega)
    have e11 : (g.Kind == 11) = false := by rw [hk]; exact decide_eq_false (by omega)
    have et : F_impl_isTwo g.Kind = some false := by
      unfold F_impl_isTwo F_impl_within
      rw [hk, decide_eq_false (show ¬ (9 : Int) ≤ (k : Int) by omega)]; rfl
    have hs : (n : Int) - 1 - a = ((n - 1 - a : Nat) : Int) := by omega
    simp only [e12, e9, e10, e11, cond_false, et, Option.bind_some]
    rw [ha, wr (a := (n : Int) - 1) (by omega), wr (a := (n : Int) - 1 - a) (by omega), wru (a := (n : Int) - 1 - a) (by omega), chk_t (by omega), hs,
      an_small ⟨i, hi⟩ ⟨j, hj⟩ ⟨n - 1 - a, by omega⟩]
    simp only
    rw [im_flip hn.2 (by omega) hi, ibeq]
    simp only [gb, sp_bit hn.2 (show a < n by omega) hi, sp_bit hn.2 (show a < n by omega) hj, im_bit hn.2 (show a < n by omega) hi, im_bit hn.2 (show a < n by omega) hj]
    obtain ⟨w1, w2, w3⟩ := en_small ⟨k, by omega⟩ ⟨bi i (n - 1 - a), bi_lt _ _⟩ ⟨bi j (n - 1 - a), bi_lt _ _⟩ (by simp only; omega)
    simp only at w1 w2 w3
    obtain ⟨l, w4, w5⟩ := Option.bind_eq_some_iff.1 w2
    by_cases hij : i = j
    · rw [decide_eq_true hij]
      simp only [Bool.true_or, Bool.not_true, cond_false, cond_true, Option.bind_some]
      rw [hk, w4]
      simp only [Option.bind_some, w5, w1, orR]
      exact ⟨_, rfl, rfl, w3⟩
    · rw [decide_eq_false hij]
      simp only [Bool.false_or, Bool.not_false, cond_true, Option.bind_some, ibeq]
      by_cases hf : fl i (n - 1 - a) = j
      · rw [decide_eq_true hf]
        simp only [Bool.not_true, cond_false, cond_true]
        rw [hk, w4]
        simp only [Option.bind_some, w5, w1, orR]
        exact ⟨_, rfl, rfl, w3⟩
      · rw [decide_eq_false hf]
        simp only [Bool.not_false, cond_false, cond_true, Option.bind_some, orR]
        exact ⟨_, rfl, rfl, dZero_ok⟩
  · obtain ⟨a, ha⟩ : ∃ a : Nat, g.A = a := ⟨g.A.toNat, by omega⟩
    obtain ⟨b, hb⟩ : ∃ b : Nat, g.B = b := ⟨g.B.toNat, by omega⟩
    have hs : (n : Int) - 1 - a = ((n - 1 - a : Nat) : Int) := by omega
    have hs' : (n : Int) - 1 - b = ((n - 1 - b : Nat) : Int) := by omega
    have et : F_impl_isTwo g.Kind = some true := by
      unfold F_impl_isTwo F_impl_within
      rw [decide_eq_true k1, decide_eq_true k2]; rfl
    have e12 : (g.Kind == 12) = false := decide_eq_false (by omega)
    have c1 := sp_bit hn.2 (show a < n by omega) hj
    have c2 := sp_bit hn.2 (show b < n by omega) hj
    have d1 := im_bit hn.2 (show a < n by omega) hi
    have d2 := im_bit hn.2 (show b < n by omega) hi
    have hne : n - 1 - a ≠ n - 1 - b := by omega
    unfold F_impl_comesFrom
    rw [e12, et, ha, hb, c1, c2, d1, d2, wr (a := (n : Int) - 1) (by omega), wr (a := (n : Int) - 1 - a) (by omega), wru (a := (n : Int) - 1 - a) (by omega), wr (a := (n : Int) - 1 - b) (by omega), wru (a := (n : Int) - 1 - b) (by omega), hs, hs']
    simp only [cond_false, cond_true, Option.bind_some, gb]
    have : g.Kind = 9 ∨ g.Kind = 10 ∨ g.Kind = 11 := by omega
    rcases this with hk | hk | hk
    · have hc := cx_small ⟨i, hi⟩ ⟨j, hj⟩ ⟨n - 1 - a, by omega⟩ ⟨n - 1 - b, by omega⟩ hne
      simp only at hc
      refine ⟨bif decide (i = if bi j (n - 1 - a) = 1 then fl j (n - 1 - b) else j) then phD 0 else dZero, ?_, ?_, sel_ok _ o0⟩
      · rw [hk]
        simp only [show ((9 : Int) == 9) = true from rfl, cond_true, one_beq]
        by_cases h1 : bi j (n - 1 - a) = 1
        · simp only [decide_eq_true h1, cond_true, if_pos h1]
          rw [chk_t (by omega), (fl_small ⟨j, hj⟩ ⟨n - 1 - b, by omega⟩).1]
          simp only [Option.bind_some, orR, ibeq]
          exact bsomeT
        · simp only [decide_eq_false h1, cond_false, if_neg h1, Option.bind_some, orR, ibeq]
          exact bsomeT
      · rw [hk, hc]
        simp only [show ((9 : Int) == 9) = true from rfl, show ((9 : Int) == 11) = false from rfl, show ((9 : Int) == 10) = false from rfl, Bool.true_and, Bool.false_and, cond_false, one_beq]
        have f1 := im_flip hn.2 (show b < n by omega) hi
        have hq : ∀ from_ : Nat, ((bif ((from_ : Int) == (j : Int)) then ((F_impl_small false).bind fun r_7 => (F_impl_phase (IntKind.i64.wrap (4 * r_7))).bind fun r_8 => (some (.inr (r_8, true)) : Option (Unit ⊕ (TDyadic × Bool)))) else some (.inl ())).bind <| orR fun _ => some (TDyadic.mk (TRing.mk 0 0 0 0) 0, true)) = some ((bif decide (from_ = j) then phD 0 else dZero), true) := fun from_ => by
          rw [ibeq]
          have q0' : F_impl_phase (IntKind.i64.wrap (4 * 0)) = some (phD 0) := q0
          cases decide (from_ = j) with
          | true => simp only [F_impl_small, cond_true, cond_false, Option.bind_some, q0', orR]
          | false => rfl
        by_cases h1 : bi i (n - 1 - a) = 1
        · simp only [decide_eq_true h1, cond_true, if_pos h1, f1, Option.bind_some]
          exact hq _
        · simp only [decide_eq_false h1, cond_false, if_neg h1, Option.bind_some]
          exact hq _
    · refine ⟨bif decide (i = j) then (if bi j (n - 1 - a) = 1 ∧ bi j (n - 1 - b) = 1 then phD 4 else phD 0) else dZero, ?_, ?_, sel_ok _ (by split; exact o4; exact o0)⟩
      · rw [hk]
        simp only [show ((10 : Int) == 9) = false from rfl, show ((10 : Int) == 10) = true from rfl, cond_true, cond_false, one_beq]
        by_cases h1 : bi j (n - 1 - a) = 1
        · by_cases h2 : bi j (n - 1 - b) = 1
          · simp only [decide_eq_true h1, one_beq, decide_eq_true h2, cond_true, Option.bind_some, Bool.and_self, p4, orR, ibeq, if_pos (And.intro h1 h2)]
            exact bsomeT
          · simp only [decide_eq_true h1, one_beq, decide_eq_false h2, cond_true, Option.bind_some, Bool.and_false, cond_false, orR, ibeq, if_neg (show ¬ (bi j (n - 1 - a) = 1 ∧ bi j (n - 1 - b) = 1) from fun h => h2 h.2)]
            exact bsomeT
        · simp only [decide_eq_false h1, cond_false, Option.bind_some, Bool.false_and, orR, ibeq, if_neg (show ¬ (bi j (n - 1 - a) = 1 ∧ bi j (n - 1 - b) = 1) from fun h => h1 h.1)]
          exact bsomeT
      · rw [hk]
        simp only [show ((10 : Int) == 9) = false from rfl, show ((10 : Int) == 11) = false from rfl, show ((10 : Int) == 10) = true from rfl, Bool.true_and, Bool.false_and, cond_true, cond_false, one_beq, Option.bind_some, ibeq]
        by_cases hij : i = j
        · subst hij
          have q4' : F_impl_phase (IntKind.i64.wrap (4 * 1)) = some (phD 4) := q4
          have q0' : F_impl_phase (IntKind.i64.wrap (4 * 0)) = some (phD 0) := q0
          by_cases h1 : bi i (n - 1 - a) = 1
          · by_cases h2 : bi i (n - 1 - b) = 1
            · simp only [decide_eq_true h1, one_beq, decide_eq_true h2, decide_true, cond_true, Option.bind_some, Bool.and_self, F_impl_small, q4', orR, if_pos (And.intro h1 h2)]
            · simp only [decide_eq_true h1, one_beq, decide_eq_false h2, decide_true, cond_true, cond_false, Option.bind_some, Bool.and_false, F_impl_small, q0', orR, if_neg (show ¬ (bi i (n - 1 - a) = 1 ∧ bi i (n - 1 - b) = 1) from fun h => h2 h.2)]
          · simp only [decide_eq_false h1, decide_true, cond_true, cond_false, Option.bind_some, Bool.false_and, F_impl_small, q0', orR, if_neg (show ¬ (bi i (n - 1 - a) = 1 ∧ bi i (n - 1 - b) = 1) from fun h => h1 h.1)]
        · simp only [decide_eq_false hij, cond_false, Option.bind_some, orR]
          rfl
    · have hc := sw_small ⟨i, hi⟩ ⟨j, hj⟩ ⟨n - 1 - a, by omega⟩ ⟨n - 1 - b, by omega⟩ hne
      simp only at hc
      refine ⟨bif decide (i = if bi j (n - 1 - a) ≠ bi j (n - 1 - b) then fl (fl j (n - 1 - a)) (n - 1 - b) else j) then phD 0 else dZero, ?_, ?_, sel_ok _ o0⟩
      · rw [hk]
        simp only [show ((11 : Int) == 9) = false from rfl, show ((11 : Int) == 10) = false from rfl, show ((11 : Int) == 11) = true from rfl, cond_true, cond_false, ibne]
        by_cases h1 : bi j (n - 1 - a) = bi j (n - 1 - b)
        · simp only [decide_eq_true h1, Bool.not_true, cond_false, if_neg (show ¬ (bi j (n - 1 - a) ≠ bi j (n - 1 - b)) from fun h => h h1), Option.bind_some, orR, ibeq]
          exact bsomeT
        · simp only [decide_eq_false h1, Bool.not_false, cond_true, if_pos h1]
          rw [chk_t (by omega), chk_t (by omega), (fl_small ⟨j, hj⟩ ⟨n - 1 - a, by omega⟩).1]
          have hl := (fl_small ⟨j, hj⟩ ⟨n - 1 - a, by omega⟩).2
          rw [(fl_small ⟨fl j (n - 1 - a), hl⟩ ⟨n - 1 - b, by omega⟩).1]
          simp only [Option.bind_some, orR, ibeq]
          exact bsomeT
      · rw [hk, hc]
        simp only [show ((11 : Int) == 9) = false from rfl, show ((11 : Int) == 11) = true from rfl, show ((11 : Int) == 10) = false from rfl, Bool.true_and, Bool.false_and, cond_false, ibne]
        have f1 := im_flip hn.2 (show a < n by omega) hi
        have f2 := im_flip hn.2 (show b < n by omega) (fl_lt hn.2 (show a < n by omega) hi)
        have hq : ∀ from_ : Nat, ((bif ((from_ : Int) == (j : Int)) then ((F_impl_small false).bind fun r_7 => (F_impl_phase (IntKind.i64.wrap (4 * r_7))).bind fun r_8 => (some (.inr (r_8, true)) : Option (Unit ⊕ (TDyadic × Bool)))) else some (.inl ())).bind <| orR fun _ => some (TDyadic.mk (TRing.mk 0 0 0 0) 0, true)) = some ((bif decide (from_ = j) then phD 0 else dZero), true) := fun from_ => by
          rw [ibeq]
          have q0' : F_impl_phase (IntKind.i64.wrap (4 * 0)) = some (phD 0) := q0
          cases decide (from_ = j) with
          | true => simp only [F_impl_small, cond_true, cond_false, Option.bind_some, q0', orR]
          | false => rfl
        by_cases h1 : bi i (n - 1 - a) = bi i (n - 1 - b)
        · simp only [decide_eq_true h1, Bool.not_true, cond_false, if_neg (show ¬ (bi i (n - 1 - a) ≠ bi i (n - 1 - b)) from fun h => h h1), Option.bind_some]
          exact hq _
        · simp only [decide_eq_false h1, Bool.not_false, cond_true, if_pos h1, f1, f2, Option.bind_some]
          exact hq _
  · have e12 : (g.Kind == 12) = true := decide_eq_true hk
    simp only [e12, cond_true, p1, q1, Option.bind_some, orR, ibeq]
    cases decide (i = j) with
    | true => exact ⟨_, rfl, rfl, o1⟩
    | false => exact ⟨_, rfl, rfl, dZero_ok⟩
theorem pow_le {n : Nat} (hn : 1 ≤ n ∧ n ≤ 5) : 2 ≤ 2 ^ n ∧ 2 ^ n ≤ 32 := by
  have : n = 1 ∨ n = 2 ∨ n = 3 ∨ n = 4 ∨ n = 5 := by omega
  rcases this with rfl | rfl | rfl | rfl | rfl <;> decide
theorem pow_dim {n : Nat} (hn : 1 ≤ n ∧ n ≤ 5) : dimB ((2 ^ n : Nat) : Int) = true := by
  have : n = 1 ∨ n = 2 ∨ n = 3 ∨ n = 4 ∨ n = 5 := by omega
  rcases this with rfl | rfl | rfl | rfl | rfl <;> decide
theorem shl_u {n : Nat} (hn : 1 ≤ n ∧ n ≤ 5) : shlK .i64 1 (IntKind.u64.wrap (n : Int)) = ((2 ^ n : Nat) : Int) := by
  have : n = 1 ∨ n = 2 ∨ n = 3 ∨ n = 4 ∨ n = 5 := by omega
  rcases this with rfl | rfl | rfl | rfl | rfl <;> decide
theorem shl_i {n : Nat} (hn : 1 ≤ n ∧ n ≤ 5) : shlK .i64 1 (n : Int) = ((2 ^ n : Nat) : Int) := by
  have : n = 1 ∨ n = 2 ∨ n = 3 ∨ n = 4 ∨ n = 5 := by omega
  rcases this with rfl | rfl | rfl | rfl | rfl <;> decide
def gcD (n : Nat) (g : TGate) (i j : Nat) : TDyadic := (F_spec_l6Cell n g i j).getD dZero
theorem gc_both {n : Nat} (hn : 1 ≤ n ∧ n ≤ 5) {g : TGate} (hg : gOk n g = true) {i j : Nat} (hi : i < 2 ^ n) (hj : j < 2 ^ n) :
    F_spec_l6Cell n g i j = some (gcD n g i j) ∧ F_impl_GateMatrix_1 i j g n = some (gcD n g i j, true) ∧ dOk (gcD n g i j) = true := by
  have := (pow_le hn).2
  obtain ⟨z, h1, h2, h3⟩ := cell_both hn hg (i := i) (j := j) (by omega) (by omega)
  have e : gcD n g i j = z := by unfold gcD; rw [h1]; rfl
  rw [e]; exact ⟨h1, h2, h3⟩
def gL (n : Nat) (g : TGate) : List TDyadic := ((F_spec_l6Gate n g).getD (TMatrix.mk 0 0 [])).Cells
theorem gate_both {n : Nat} (hn : 1 ≤ n ∧ n ≤ 5) {g : TGate} (hg : gOk n g = true) :
    F_spec_l6Gate n g = some (TMatrix.mk (2 ^ n : Nat) (2 ^ n : Nat) (gL n g)) ∧ F_impl_GateMatrix n g = some (TMatrix.mk (2 ^ n : Nat) (2 ^ n : Nat) (gL n g), true) ∧ okD (gL n g) ∧ (gL n g).length = 2 ^ n * 2 ^ n := by
  have hp := pow_le hn
  have hd := pow_dim hn
  obtain ⟨l, g1, g2, g3⟩ := grid_pure (f := gcD n g) (2 ^ n) (2 ^ n) (fun i j hi hj => (gc_both hn hg hi hj).2.2)
  have hs : F_spec_l6Gate n g = some (TMatrix.mk (2 ^ n : Nat) (2 ^ n : Nat) l) := by
    unfold F_spec_l6Gate
    rw [chk_t (by rw [wru (by omega)]; omega), shl_u hn, Int.toNat_natCast]
    have hin : ∀ (i : Nat) (s : List TDyadic), i < 2 ^ n → s.length = i * 2 ^ n → forN (F_spec_l6Gate_l2 n g i) (2 ^ n) 0 s = forN (fun j l' => (some (gcD n g i j)).bind fun z => some (l' ++ [z])) (2 ^ n) 0 s := fun i s hi hs =>
      forN_eq (G := fun j (z : List TDyadic) => z.length = i * 2 ^ n + j) (n := 2 ^ n) (fun j z hj hz => by
        unfold F_spec_l6Gate_l2
        rw [(gc_both hn hg hi hj).1]
        simp only [Option.bind_some]
        have := grid_len hi hj hp.2 hp.2
        rw [chk_t (by omega)]
        exact ⟨rfl, fun z' h => by cases h; simp [hz]; omega⟩) (2 ^ n) 0 s (by omega) (by omega)
    rw [forN_eq (f := F_spec_l6Gate_l1 n g) (g := fun i l' => forN (fun j l' => (some (gcD n g i j)).bind fun z => some (l' ++ [z])) (2 ^ n) 0 l') (G := fun i (z : List TDyadic) => z.length = i * 2 ^ n) (n := 2 ^ n) (fun i z hi hz => by
      unfold F_spec_l6Gate_l1
      rw [shl_u hn, Int.toNat_natCast, chk_t (by omega), hin i z hi hz]
      constructor
      · cases forN (fun j l' => (some (gcD n g i j)).bind fun z => some (l' ++ [z])) (2 ^ n) 0 z <;> rfl
      · intro z' h
        obtain ⟨l', h1, h2⟩ := forN_inv (f := fun j l' => (some (gcD n g i j)).bind fun z => some (l' ++ [z])) (fun j w => w.length = i * 2 ^ n + j) (2 ^ n) 0 z (by omega) (fun j s _ _ hs => ⟨_, rfl, by simp [hs]; omega⟩)
        rw [h1] at h; cases h
        rw [h2, Nat.add_mul]; omega) (2 ^ n) 0 [] (by omega) (by simp)]
    unfold gridO at g1
    rw [g1, chk_t (by omega)]; rfl
  have hl : gL n g = l := by unfold gL; rw [hs]; rfl
  rw [hl]
  refine ⟨hs, ?_, g2, g3⟩
  have hv : F_impl_IsValidGate n g = some (gOk n g) := impl_gate (by omega) g
  unfold F_impl_GateMatrix
  rw [hv, hg]
  simp only [Option.bind_some, Bool.not_true, cond_false]
  rw [chk_t (by omega), chk_t (by omega), shl_i hn]
  rw [(im_matrixOf (cell := fun x_0 x_1 => F_impl_GateMatrix_1 x_0 x_1 g n) (cellO := fun i j => some (gcD n g i j)) hd hd hp.2 hp.2 (fun i j hi hj => ⟨(gc_both hn hg hi hj).2.1, fun z hz => by cases hz; exact (gc_both hn hg hi hj).2.2⟩)).1, g1]
  rfl
/-- One gate more. -/
def runS (n E : Nat) (gs : List TGate) (i : Nat) (l : List TDyadic) : Option (List TDyadic) := match gs[i]? with | some g => mmO (gL n g) l (2 ^ n) (2 ^ n) E | none => none
def runO (n E : Nat) (gs : List TGate) (l : List TDyadic) : Option (List TDyadic) := forN (runS n E gs) gs.length 0 l
section
variable {n E : Nat} {x : TCircuit}
theorem sp_run (hn : 1 ≤ n ∧ n ≤ 5) (hq : x.Qubits = (n : Int)) (hg : x.Gates.all (gOk n) = true) (hx : x.Gates.length ≤ 400) (hE : E ≤ 32) {l : List TDyadic} (ol : okD l) (ll : l.length = 2 ^ n * E) (c : Bool) :
    ∃ l' c', F_spec_l2C_run (cB c) x (TMatrix.mk (2 ^ n : Nat) E l) = some (TMatrix.mk (2 ^ n : Nat) E l', cB c') ∧ SR (fun l => okD l ∧ l.length = 2 ^ n * E) (runO n E x.Gates l) c l' c' := by
  have hp := pow_le hn
  obtain ⟨l', c', h1, h2⟩ := sr_it (f := F_spec_l2C_run_l1 x) (enc := fun b (l : List TDyadic) => (b, ((2 ^ n : Nat) : Int), (E : Int), l)) (G := fun _ l => okD l ∧ l.length = 2 ^ n * E) (st := runS n E x.Gates) (n := x.Gates.length) (fun i b s hi hs => by
    have hgi : gOk n x.Gates[i] = true := List.all_eq_true.1 hg _ (List.getElem_mem hi)
    have hr : runS n E x.Gates i s = mmO (gL n x.Gates[i]) s (2 ^ n) (2 ^ n) E := by unfold runS; rw [List.getElem?_eq_getElem hi]
    obtain ⟨g1, _, g3, g4⟩ := gate_both hn hgi
    unfold F_spec_l2C_run_l1
    simp only [getI_nat, List.getElem?_eq_getElem hi, Option.bind_some]
    cases b with
    | true => exact ⟨s, true, rfl, hs, fun h => h, fun h => by cases h⟩
    | false =>
      obtain ⟨z, b', t1, t2⟩ := sp_times (R := 2 ^ n) (K := 2 ^ n) (C := E) g3 hs.1 g4 hs.2 hp.2 hp.2 hE false
      refine ⟨z, b', ?_, by rw [hr]; exact t2⟩
      simp only [Bool.not_false, cond_true]
      rw [hq, g1]
      simp only [Option.bind_some]
      rw [show F_spec_l2C_times (Tl2C.mk false) (TMatrix.mk (2 ^ n : Nat) (2 ^ n : Nat) (gL n x.Gates[i])) (TMatrix.mk (2 ^ n : Nat) E s) = _ from t1]
      rfl) x.Gates.length 0 l c (by omega) ⟨ol, ll⟩
  refine ⟨l', c', ?_, h2⟩
  unfold F_spec_l2C_run
  rw [chk_t (by omega), show forN (F_spec_l2C_run_l1 x) x.Gates.length 0 ((cB c).bad, (TMatrix.mk (2 ^ n : Nat) E l).Rows, (TMatrix.mk (2 ^ n : Nat) E l).Cols, (TMatrix.mk (2 ^ n : Nat) E l).Cells) = _ from h1]
  rfl
theorem im_wh (hn : 1 ≤ n ∧ n ≤ 5) (hq : x.Qubits = (n : Int)) (hg : x.Gates.all (gOk n) = true) (hx : x.Gates.length ≤ 400) (dE : dimB (E : Int) = true) :
    ∀ (q m i : Nat) (l : List TDyadic), i + m = x.Gates.length → m + 1 < q → okD l → l.length = 2 ^ n * E →
      ∃ i', whX (F_impl_applied_l1 x) q (true, ((2 ^ n : Nat) : Int), (E : Int), l, (i : Int)) = some (.inl ((mR (2 ^ n) E (forN (runS n E x.Gates) m i l)).2, (mR (2 ^ n) E (forN (runS n E x.Gates) m i l)).1.Rows, (mR (2 ^ n) E (forN (runS n E x.Gates) m i l)).1.Cols, (mR (2 ^ n) E (forN (runS n E x.Gates) m i l)).1.Cells, i')) ∧
        ∀ z, forN (runS n E x.Gates) m i l = some z → okD z ∧ z.length = 2 ^ n * E
  | 0, _, _, _, _, hq', _, _ => absurd hq' (Nat.not_lt_zero _)
  | q + 1, 0, i, l, hm, _, ol, ll => by
    refine ⟨i, ?_, fun z hz => by cases hz; exact ⟨ol, ll⟩⟩
    simp only [whX]
    unfold F_impl_applied_l1
    simp only
    rw [decide_eq_false (show ¬ (i : Int) < (x.Gates.length : Int) by omega)]
    rfl
  | q + 1, m + 1, i, l, hm, hq', ol, ll => by
    have hp := pow_le hn
    have hi : i < x.Gates.length := by omega
    have hgi : gOk n x.Gates[i] = true := List.all_eq_true.1 hg _ (List.getElem_mem hi)
    obtain ⟨_, g2, g3, g4⟩ := gate_both hn hgi
    obtain ⟨i1, i2⟩ := im_mul (m_make (pow_dim hn) (pow_dim hn) g4 g3) (m_make (pow_dim hn) dE ll ol)
    have hr : runS n E x.Gates i l = mmO (gL n x.Gates[i]) l (2 ^ n) (2 ^ n) E := by unfold runS; rw [List.getElem?_eq_getElem hi]
    have hb : F_impl_applied_l1 x (true, ((2 ^ n : Nat) : Int), (E : Int), l, (i : Int)) = some (.nx ((mR (2 ^ n) E (mmO (gL n x.Gates[i]) l (2 ^ n) (2 ^ n) E)).2, (mR (2 ^ n) E (mmO (gL n x.Gates[i]) l (2 ^ n) (2 ^ n) E)).1.Rows, (mR (2 ^ n) E (mmO (gL n x.Gates[i]) l (2 ^ n) (2 ^ n) E)).1.Cols, (mR (2 ^ n) E (mmO (gL n x.Gates[i]) l (2 ^ n) (2 ^ n) E)).1.Cells, ((i + 1 : Nat) : Int))) := by
      unfold F_impl_applied_l1
      simp only
      rw [decide_eq_true (show (i : Int) < (x.Gates.length : Int) by omega), wr (a := (i : Int) + 1) (by omega)]
      simp only [Bool.and_self, cond_true, getI_nat, List.getElem?_eq_getElem hi, Option.bind_some]
      rw [hq, g2]
      simp only [Option.bind_some]
      rw [i1]
      rfl
    simp only [whX, hb, Option.bind_some, forN, hr]
    cases hc : mmO (gL n x.Gates[i]) l (2 ^ n) (2 ^ n) E with
    | none =>
      refine ⟨((i + 1 : Nat) : Int), ?_, fun z hz => by cases hz⟩
      simp only [mR, Option.bind_none]
      cases q with
      | zero => omega
      | succ q =>
        simp only [whX]
        unfold F_impl_applied_l1
        simp only [Bool.and_false, cond_false, Option.bind_some]
    | some z =>
      obtain ⟨z1, z2⟩ := i2 z hc
      exact im_wh hn hq hg hx dE q m (i + 1) z (by omega) (by omega) z1 z2
theorem im_run (hn : 1 ≤ n ∧ n ≤ 5) (hq : x.Qubits = (n : Int)) (hg : x.Gates.all (gOk n) = true) (hx : x.Gates.length ≤ 400) (dE : dimB (E : Int) = true) {l : List TDyadic} (ol : okD l) (ll : l.length = 2 ^ n * E) :
    F_impl_applied x (TMatrix.mk (2 ^ n : Nat) E l) true = some (mR (2 ^ n) E (runO n E x.Gates l)) ∧ ∀ z, runO n E x.Gates l = some z → okD z ∧ z.length = 2 ^ n * E := by
  obtain ⟨i', h1, h2⟩ := im_wh hn hq hg hx dE fuel x.Gates.length 0 l (by omega) (fuel_big (by omega)) ol ll
  refine ⟨?_, h2⟩
  unfold F_impl_applied
  simp only
  rw [show whX (F_impl_applied_l1 x) fuel (true, ((2 ^ n : Nat) : Int), (E : Int), l, 0) = _ from h1]
  rfl
end
theorem c_parts {c : TCircuit} (h : cOk c = true) : ∃ n : Nat, c.Qubits = (n : Int) ∧ (1 ≤ n ∧ n ≤ 5) ∧ c.Gates.length ≤ 400 ∧ c.Gates.all (gOk n) = true := by
  unfold cOk at h
  simp only [Bool.and_eq_true, decide_eq_true_eq] at h
  obtain ⟨⟨⟨h1, h2⟩, h3⟩, h4⟩ := h
  obtain ⟨n, hn⟩ : ∃ n : Nat, c.Qubits = n := ⟨c.Qubits.toNat, by omega⟩
  rw [hn] at h4
  exact ⟨n, hn, by omega, h3, h4⟩
def colL (d s : Nat) : List TDyadic := (List.range d).map fun i => (unitL d).getD (i * d + s) dZero
theorem forN_one {σ : Type} {f : Nat → σ → Option σ} {s : σ} : forN f 1 0 s = f 0 s := by
  simp only [forN]
  cases f 0 s <;> rfl
theorem col_grid (d s : Nat) : gridO (fun i _ => some ((unitL d).getD (i * d + s) dZero)) d 1 = some (colL d s) := by
  obtain ⟨z, h1, h2⟩ := forN_inv (f := fun i l' => forN (fun _ l' => (some ((unitL d).getD (i * d + s) dZero)).bind fun z => some (l' ++ [z])) 1 0 l') (fun i z => z = (List.range i).map fun i => (unitL d).getD (i * d + s) dZero) d 0 [] (by simp) (fun i z _ _ hz => by
    refine ⟨z ++ [(unitL d).getD (i * d + s) dZero], by rw [forN_one]; rfl, ?_⟩
    rw [hz, List.range_succ, List.map_append]; rfl)
  unfold gridO
  rw [h1, h2, Nat.zero_add]; rfl
theorem col_len (d s : Nat) : (colL d s).length = d * 1 := by simp [colL]
theorem col_ok (d s : Nat) : okD (colL d s) := fun z hz => by
  simp only [colL, List.mem_map] at hz
  obtain ⟨i, _, rfl⟩ := hz
  exact getD_ok (unit_ok d) _
theorem ixI {d i : Nat} {s : Int} (hi : i < d) (hs : 0 ≤ s ∧ s < d) (hd : d ≤ 32) : IntKind.i64.wrap (IntKind.i64.wrap ((i : Int) * (d : Int)) + s) = ((i * d + s.toNat : Nat) : Int) := by
  obtain ⟨k, rfl⟩ : ∃ k : Nat, s = k := ⟨s.toNat, by omega⟩
  exact ix hi (by omega) hd hd
theorem spec_col {d : Nat} {s : Int} (hs : 0 ≤ s ∧ s < d) (hd : d ≤ 32) : F_spec_l3Column (TMatrix.mk d d (unitL d)) s = some (TMatrix.mk d 1 (colL d s.toNat)) := by
  unfold F_spec_l3Column
  simp only [Int.toNat_natCast]
  rw [chk_t (by omega)]
  obtain ⟨z, h1, h2⟩ := forN_inv (f := F_spec_l3Column_l1 (TMatrix.mk d d (unitL d)) s) (fun i z => z = (List.range i).map fun i => (unitL d).getD (i * d + s.toNat) dZero) d 0 [] (by simp) (fun i z _ hi hz => by
    refine ⟨z ++ [(unitL d).getD (i * d + s.toNat) dZero], ?_, by rw [hz, List.range_succ, List.map_append]; rfl⟩
    unfold F_spec_l3Column_l1
    simp only
    rw [ixI (by omega) hs hd, gI (n := i * d + s.toNat) rfl (by rw [unit_len]; exact ix_lt (by omega) (by omega))]
    simp only [Option.bind_some]
    rw [chk_t (by rw [hz]; simp; omega)])
  rw [h1, h2, Nat.zero_add]; rfl
theorem dim_one : dimB ((1 : Nat) : Int) = true := by decide
theorem impl_col {d : Nat} {s : Int} (hs : 0 ≤ s ∧ s < d) (hdim : dimB (d : Int) = true) : F_impl_ColumnOf (TMatrix.mk d d (unitL d)) s = some (TMatrix.mk d 1 (colL d s.toNat), true) := by
  have hd := dim_le hdim
  have hm : mOk (TMatrix.mk d d (unitL d)) = true := m_make hdim hdim (unit_len d) (unit_ok d)
  have hl : (unitL d).length ≤ 1024 := by rw [unit_len]; exact Nat.mul_le_mul (show d ≤ 32 by omega) (show d ≤ 32 by omega)
  unfold F_impl_ColumnOf F_impl_within
  rw [impl_mgood _ (by simp only; omega), hm]
  simp only [Option.bind_some, gb, Bool.not_true, Bool.not_false, cond_true]
  rw [wr (a := (d : Int) - 1) (by omega), decide_eq_true hs.1, decide_eq_true (show s ≤ (d : Int) - 1 by omega)]
  simp only [Bool.and_self, Bool.not_true, Bool.or_self, cond_false]
  have := (im_matrixOf (R := d) (C := 1) (cell := fun x_0 x_1 => F_impl_ColumnOf_1 x_0 x_1 (TMatrix.mk d d (unitL d)) s) (cellO := fun i _ => some ((unitL d).getD (i * d + s.toNat) dZero)) hdim dim_one (by omega) (by omega) (fun i j hi hj => by
    refine ⟨?_, fun z hz => by cases hz; exact getD_ok (unit_ok d) _⟩
    unfold F_impl_ColumnOf_1
    obtain ⟨k, rfl⟩ : ∃ k : Nat, s = k := ⟨s.toNat, by omega⟩
    rw [im_at hi (show k < d by omega) (by omega) (by omega) (unit_len d)]
    rfl)).1
  rw [col_grid] at this
  rw [show F_impl_matrixOf (d : Int) 1 (fun x_0 x_1 => F_impl_ColumnOf_1 x_0 x_1 (TMatrix.mk d d (unitL d)) s) = _ from this]
  rfl
def stO (c : TCircuit) (s : Int) : Option (List TDyadic) := runO c.Qubits.toNat 1 c.Gates (colL (2 ^ c.Qubits.toNat) s.toNat)
def stB (c : TCircuit) (s : Int) : Bool := cOk c && (decide (0 ≤ s) && decide (s < ((2 ^ c.Qubits.toNat : Nat) : Int)))
def stR (c : TCircuit) (s : Int) : TMatrix × Bool := if stB c s then mR (2 ^ c.Qubits.toNat) 1 (stO c s) else (TMatrix.mk 0 0 [], false)
theorem st_both (c : TCircuit) (s : Int) (hl : c.Gates.length ≤ 1048576) : F_spec_StateAfter c s = some (stR c s) ∧ F_impl_StateAfter c s = some (stR c s) ∧ ∀ z, stB c s = true → stO c s = some z → okD z ∧ z.length = 2 ^ c.Qubits.toNat * 1 := by
  unfold F_spec_StateAfter F_impl_StateAfter F_spec_l1In F_impl_within stR stO stB
  rw [spec_good, impl_good c hl]
  cases hc : cOk c with
  | false =>
    simp only [Option.bind_some, Bool.not_false, Bool.not_true]
    rw [chk_t (fun h => by cases h), chk_t (fun h => by cases h)]
    exact ⟨rfl, rfl, fun z h => by cases h⟩
  | true =>
    obtain ⟨n, hq, hn, hx, hg⟩ := c_parts hc
    have hp := pow_le hn
    have hd := pow_dim hn
    rw [hq]
    simp only [Option.bind_some, Bool.not_true, Bool.not_false, gb, cond_true, Int.toNat_natCast, Bool.true_and, Bool.false_or]
    rw [chk_t (fun _ => by rw [wru (by omega)]; omega), chk_t (fun _ => by omega), shl_u hn, shl_i hn, wr (a := ((2 ^ n : Nat) : Int) - 1) (by omega)]
    by_cases h0 : 0 ≤ s ∧ s < ((2 ^ n : Nat) : Int)
    · rw [decide_eq_true h0.1, decide_eq_true h0.2, decide_eq_true (show s ≤ ((2 ^ n : Nat) : Int) - 1 by omega)]
      simp only [Bool.and_self, Bool.not_true, cond_false, if_true]
      rw [chk_t (by rw [wru (by omega)]; omega), chk_t (by omega), unit_spec _ (dim_mem hd), unit_impl _ (dim_mem hd)]
      simp only [Option.bind_some]
      rw [spec_col h0 hp.2, impl_col h0 hd]
      obtain ⟨l, b, s1, s2⟩ := sp_run (E := 1) hn hq hg hx (by decide) (col_ok (2 ^ n) s.toNat) (col_len _ _) false
      obtain ⟨i1, i2⟩ := im_run (E := 1) hn hq hg hx dim_one (col_ok (2 ^ n) s.toNat) (col_len _ _)
      simp only [Option.bind_some]
      rw [show F_spec_l2C_run (Tl2C.mk false) c (TMatrix.mk (2 ^ n : Nat) 1 (colL (2 ^ n) s.toNat)) = _ from s1, show F_impl_applied c (TMatrix.mk (2 ^ n : Nat) 1 (colL (2 ^ n) s.toNat)) true = _ from i1]
      refine ⟨?_, rfl, fun z _ hz => i2 z hz⟩
      simp only [Option.bind_some]
      rcases s2.good with ⟨p, rfl⟩ | ⟨p, rfl⟩
      · rw [p]; rfl
      · rw [p]; rfl
    · have e : (decide (0 ≤ s) && decide (s ≤ ((2 ^ n : Nat) : Int) - 1)) = false := Bool.eq_false_iff.2 (fun h => by simp only [Bool.and_eq_true, decide_eq_true_eq] at h; omega)
      have e2 : (decide (0 ≤ s) && decide (s < ((2 ^ n : Nat) : Int))) = false := Bool.eq_false_iff.2 (fun h => by simp only [Bool.and_eq_true, decide_eq_true_eq] at h; omega)
      rw [e, e2]
      exact ⟨rfl, rfl, fun z h => by cases h⟩
theorem st_good {c : TCircuit} {s : Int} (hl : c.Gates.length ≤ 1048576) (h : (stR c s).2 = true) : ∃ (n : Nat) (l : List TDyadic), c.Qubits = (n : Int) ∧ (1 ≤ n ∧ n ≤ 5) ∧ stR c s = (TMatrix.mk (2 ^ n : Nat) (1 : Nat) l, true) ∧ okD l ∧ l.length = 2 ^ n := by
  obtain ⟨_, _, h3⟩ := st_both c s hl
  unfold stR at h ⊢
  cases hb : stB c s with
  | false => rw [hb] at h; simp at h
  | true =>
    rw [hb] at h
    simp only [if_true] at h ⊢
    have hc : cOk c = true := by unfold stB at hb; simp only [Bool.and_eq_true] at hb; exact hb.1
    obtain ⟨n, hq, hn, _, _⟩ := c_parts hc
    cases ho : stO c s with
    | none => rw [ho] at h; simp [mR] at h
    | some l =>
      obtain ⟨o1, o2⟩ := h3 l hb ho
      rw [hq, Int.toNat_natCast] at o2 ⊢
      exact ⟨n, l, rfl, hn, rfl, o1, by omega⟩
theorem wn_succ {k : Int} (h0 : 0 ≤ k) (h : k + 1 ≤ 9223372036854775807) : IntKind.i64.wrap (k + 1) = k + 1 := wrap_i64 ⟨by omega, by omega⟩
theorem to_GateS (a : List TGate) (h : a.length ≤ 1099511627776) : F_laws_toGateS a = some a := by
  unfold F_laws_toGateS
  rw [chk_t (by omega), chk_t (by omega), forN_fill (a := a) (by simp) (fun i out x hx ho => ?_)]
  · rfl
  · have hi := (List.getElem?_eq_some_iff.1 hx).1
    unfold F_laws_toGateS_l1 F_laws_toGate
    simp [getI_nat, hx, List.getElem?_eq_getElem (show i < out.length by omega)]
theorem sz_GateS (a : List TGate) (left : Int) (h : 0 ≤ left ∧ left ≤ 1048576) (ha : a.length ≤ 9223372036854775807) :
    (∃ s, F_laws_szGateS a left = some s ∧ (0 ≤ s ∧ s ≤ 1048576) ∧ a.length ≤ 1048576) ∨ ∃ s, F_laws_szGateS a left = some s ∧ s < 0 := by
  unfold F_laws_szGateS
  rw [wrap_i64 (a := left - (a.length : Int)) ⟨by omega, by omega⟩]
  by_cases hs : left - (a.length : Int) < 0
  · rw [decide_eq_true hs]; exact .inr ⟨_, rfl, by decide⟩
  · rw [decide_eq_false hs]; exact .inl ⟨_, rfl, ⟨by omega, by omega⟩, by omega⟩
theorem eqr_GateS (a : List TGate) (h : a.length ≤ 1099511627776) : F_laws_eqGateS a a = some true := by
  unfold F_laws_eqGateS
  simp only [bne_self_eq_false, cond_false]
  rw [chk_t (by omega), forX_pass (fun i hi => ?_)]
  · simp [orR]
  · unfold F_laws_eqGateS_l1 F_laws_eqGate
    simp [getI_nat, List.getElem?_eq_getElem hi]
theorem mk_GateS (a : List TGate) (k : Int) (h0 : 0 ≤ k) (h : k ≤ 1152921504606846976) (ha : a.length ≤ 1099511627776) : ∃ m, F_laws_markGateS a k = some (k + a.length * 3, m) := by
  obtain ⟨m, h1, hl, h2⟩ := mark_held (mk := fun (x : TGate) k => TGate.mk k (IntKind.i64.wrap (k + 1)) (IntKind.i64.wrap ((IntKind.i64.wrap (k + 1)) + 1))) (nx := fun k => (IntKind.i64.wrap ((IntKind.i64.wrap ((IntKind.i64.wrap (k + 1)) + 1)) + 1)))
    (f := F_laws_markGateS_l1) (g := (fun (_ : List TGate) (_ : Nat) k => some (Ex.nx (ρ := Int) (IntKind.i64.wrap ((IntKind.i64.wrap ((IntKind.i64.wrap (k + 1)) + 1)) + 1)))))
    (fun i m k x hx => by unfold F_laws_markGateS_l1; simp [getI_nat, hx]) (fun _ _ _ _ _ => rfl) a k
  have hn := iter_add (c := 3) (nx := fun k => (IntKind.i64.wrap ((IntKind.i64.wrap ((IntKind.i64.wrap (k + 1)) + 1)) + 1))) (by omega) (fun k hk hk' => by simp (disch := omega) only [wn_succ] <;> omega) a.length k h0 (by omega)
  exact ⟨m, by unfold F_laws_markGateS; rw [chk_t (by omega), h1, hn]; rfl⟩
theorem to_Circuit (a : TCircuit) (h0 : a.Gates.length ≤ 1099511627776) : F_laws_toCircuit a = some a := by
  unfold F_laws_toCircuit; simp only [to_GateS a.Gates h0, Option.bind_some]
theorem eqr_Circuit (a : TCircuit) (h0 : a.Gates.length ≤ 1099511627776) : F_laws_eqCircuit a a = some true := by
  unfold F_laws_eqCircuit; simp [eqr_GateS a.Gates h0]
theorem sz_Circuit (a : TCircuit) (left : Int) (h : 0 ≤ left ∧ left ≤ 1048576) (h0 : a.Gates.length ≤ 9223372036854775807) :
    (∃ s, F_laws_szCircuit a left = some s ∧ (0 ≤ s ∧ s ≤ 1048576) ∧ a.Gates.length ≤ 1048576) ∨ ∃ s, F_laws_szCircuit a left = some s ∧ s < 0 := by
  unfold F_laws_szCircuit
  rcases sz_GateS a.Gates left h h0 with ⟨s0, e0, b0, t0_0⟩ | ⟨s0, e0, b0⟩
  rotate_left
  · exact .inr ⟨_, by rw [e0]; simp only [Option.bind_some, decide_eq_true b0, cond_true]; first | rfl | skip, by decide⟩
  rw [e0]
  simp only [Option.bind_some, decide_eq_false (show ¬ s0 < 0 by omega), cond_false]
  exact .inl ⟨_, rfl, b0, t0_0⟩
theorem mk_Circuit (a : TCircuit) (k : Int) (h0' : 0 ≤ k) (h : k ≤ 1125899906842624) (h0 : a.Gates.length ≤ 1099511627776) : ∃ m0, F_laws_markCircuit a k = some (k + a.Gates.length * 3, m0) := by
  obtain ⟨m0, e0⟩ := mk_GateS a.Gates (k) (by omega) (by omega) h0
  refine ⟨m0, ?_⟩
  · unfold F_laws_markCircuit; simp only [e0, Option.bind_some]
theorem eqr_DyadicS (a : List TDyadic) (h : a.length ≤ 1099511627776) : F_laws_eqDyadicS a a = some true := by
  unfold F_laws_eqDyadicS
  simp only [bne_self_eq_false, cond_false]
  rw [chk_t (by omega), forX_pass (fun i hi => ?_)]
  · simp [orR]
  · unfold F_laws_eqDyadicS_l1 F_laws_eqDyadic F_laws_eqRing
    simp [getI_nat, List.getElem?_eq_getElem hi]
theorem mk_DyadicS (a : List TDyadic) (k : Int) (h0 : 0 ≤ k) (h : k ≤ 1152921504606846976) (ha : a.length ≤ 1099511627776) : ∃ m, F_laws_markDyadicS a k = some (k + a.length * 5, m) ∧ F_laws_heldDyadicS m k = some (k + a.length * 5) := by
  obtain ⟨m, h1, hl, h2⟩ := mark_held (mk := fun (x : TDyadic) k => TDyadic.mk (TRing.mk k (IntKind.i64.wrap (k + 1)) (IntKind.i64.wrap ((IntKind.i64.wrap (k + 1)) + 1)) (IntKind.i64.wrap ((IntKind.i64.wrap ((IntKind.i64.wrap (k + 1)) + 1)) + 1))) (IntKind.i64.wrap ((IntKind.i64.wrap ((IntKind.i64.wrap ((IntKind.i64.wrap (k + 1)) + 1)) + 1)) + 1))) (nx := fun k => (IntKind.i64.wrap ((IntKind.i64.wrap ((IntKind.i64.wrap ((IntKind.i64.wrap ((IntKind.i64.wrap (k + 1)) + 1)) + 1)) + 1)) + 1)))
    (f := F_laws_markDyadicS_l1) (g := F_laws_heldDyadicS_l1)
    (fun i m k x hx => by unfold F_laws_markDyadicS_l1; simp [getI_nat, hx]) (fun m i k x hx => by unfold F_laws_heldDyadicS_l1; simp [getI_nat, hx]) a k
  have hn := iter_add (c := 5) (nx := fun k => (IntKind.i64.wrap ((IntKind.i64.wrap ((IntKind.i64.wrap ((IntKind.i64.wrap ((IntKind.i64.wrap (k + 1)) + 1)) + 1)) + 1)) + 1))) (by omega) (fun k hk hk' => by simp (disch := omega) only [wn_succ] <;> omega) a.length k h0 (by omega)
  refine ⟨m, ?_, ?_⟩
  · unfold F_laws_markDyadicS; rw [chk_t (by omega), h1, hn]; rfl
  · unfold F_laws_heldDyadicS; rw [chk_t (by omega), h2, hn]; rfl
theorem eqr_Matrix (a : TMatrix) (h0 : a.Cells.length ≤ 1099511627776) : F_laws_eqMatrix a a = some true := by
  unfold F_laws_eqMatrix; simp [eqr_DyadicS a.Cells h0]
theorem mk_Matrix (a : TMatrix) (k : Int) (h0' : 0 ≤ k) (h : k ≤ 1125899906842624) (h0 : a.Cells.length ≤ 1099511627776) : ∃ m0, F_laws_markMatrix a k = some (k + a.Cells.length * 5, m0) ∧ F_laws_heldMatrix (TMatrix.mk a.Rows a.Cols m0) k = some (k + a.Cells.length * 5) := by
  obtain ⟨m0, e0, g0⟩ := mk_DyadicS a.Cells (k) (by omega) (by omega) h0
  refine ⟨m0, ?_, ?_⟩
  · unfold F_laws_markMatrix; simp only [e0, Option.bind_some]
  · unfold F_laws_heldMatrix; simp only
    rw [g0]; simp only [Option.bind_some]
    rw [show decide (k + (a.Cells.length : Int) * 5 < 0) = false from decide_eq_false (by omega)]; simp only [cond_false]
/-- The law, where the two answer alike. -/
theorem law_of (a0 : TCircuit) (a1 : Int) (ok0 : ok_Circuit a0) (ok1 : I64 a1) (hb : a0.Gates.length ≤ 1048576 → ∃ (r0 : TMatrix) (r1 : Bool), F_spec_StateAfter a0 a1 = some (r0, r1) ∧ F_impl_StateAfter a0 a1 = some (r0, r1) ∧ r0.Cells.length ≤ 1099511627776) : F_laws_FnExactStateAfter a0 a1 = some true := by
  unfold F_laws_FnExactStateAfter
  rcases sz_Circuit a0 1048576 ⟨by decide, by decide⟩ ok0.2.1 with ⟨s0, e0, b0, t0_0⟩ | ⟨s0, e0, b0⟩
  rotate_left
  · simp only [e0, Option.bind_some, decide_eq_true b0, cond_true]
  obtain ⟨r0, r1, hs, hi, m0⟩ := hb t0_0
  obtain ⟨ka0, ma0_0, fa0, ga0⟩ : ∃ k' ma0_0, F_laws_markCircuit a0 (1) = some (k', ma0_0) ∧ 0 ≤ k' ∧ k' ≤ 1 + 35184372088832 := by
    obtain ⟨ma0_0, e⟩ := mk_Circuit a0 (1) (by omega) (by omega) (by omega)
    exact ⟨_, ma0_0, e, by omega, by omega⟩
  obtain ⟨kr0, mr0_0, fr0, gr0, hr0⟩ : ∃ k' mr0_0, F_laws_markMatrix r0 (1) = some (k', mr0_0) ∧ F_laws_heldMatrix (TMatrix.mk r0.Rows r0.Cols mr0_0) (1) = some k' ∧ (0 ≤ k' ∧ k' ≤ 1 + 35184372088832) := by
    obtain ⟨mr0_0, e, g⟩ := mk_Matrix r0 (1) (by omega) (by omega) m0
    exact ⟨_, mr0_0, e, g, by omega, by omega⟩
  simp only [e0, decide_eq_false (show ¬ s0 < 0 by omega), cond_false, Option.bind_some, to_Circuit a0 (by omega), eqr_Circuit a0 (by omega), fa0, decide_eq_false (show ¬ ka0 < 0 by omega), hs, hi, eqr_Matrix r0 m0, fr0, gr0, decide_eq_false (show ¬ kr0 < 0 by omega), cond_true, gb, Bool.not_true, Bool.not_false, Bool.or_false, Bool.false_or, Bool.or_self, beq_self_eq_true, bne_self_eq_false]
theorem st_small (c : TCircuit) (s : Int) (hl : c.Gates.length ≤ 1048576) : (stR c s).1.Cells.length ≤ 1024 := by
  cases hb : (stR c s).2 with
  | true =>
    obtain ⟨n, l, hq, hn, e, _, h2⟩ := st_good hl hb
    rw [e]
    show l.length ≤ 1024
    rw [h2]
    have := (pow_le hn).2
    omega
  | false =>
    unfold stR at hb ⊢
    split
    · rename_i h
      rw [h] at hb
      simp only [if_true] at hb
      cases ho : stO c s with
      | none => simp [mR]
      | some z => rw [ho] at hb; simp [mR] at hb
    · simp
theorem law_FnExactStateAfter (a0 : TCircuit) (a1 : Int) (ok0 : ok_Circuit a0) (ok1 : I64 a1) : F_laws_FnExactStateAfter a0 a1 = some true :=
  law_of a0 a1 ok0 ok1 (fun hl => by
    obtain ⟨h1, h2, _⟩ := st_both a0 a1 hl
    exact ⟨(stR a0 a1).1, (stR a0 a1).2, h1, h2, by have := st_small a0 a1 hl; omega⟩)
end Go.VK
