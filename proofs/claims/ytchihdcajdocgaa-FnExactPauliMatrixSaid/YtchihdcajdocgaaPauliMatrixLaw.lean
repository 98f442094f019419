/- The plain law of FnExactPauliMatrix: what its Lean function answers, for all arguments. -/
import Derived.Test.YtchihdcajdocgaaPauliMatrixFn
import Derived.Test.YtchihdcajdocgaaLibI
set_option maxRecDepth 10000
set_option maxHeartbeats 1000000
set_option linter.unusedSimpArgs false
set_option linter.unusedVariables false
namespace Go.VK
/-- Two loops in step that both end by themselves. -/
theorem whX2_inv {σ ρ ρ' : Type} {f : σ → Option (Ex σ ρ)} {g : σ → Option (Ex σ ρ')} (I : σ → Prop) (Q : σ → Prop) (m : σ → Nat)
    (h : ∀ s, I s → (∃ s', f s = some (.nx s') ∧ g s = some (.nx s') ∧ I s' ∧ m s' < m s) ∨ ∃ s', f s = some (.br s') ∧ g s = some (.br s') ∧ Q s') :
    ∀ (k : Nat) (s : σ), I s → m s < k → ∃ s', whX f k s = some (.inl s') ∧ whX g k s = some (.inl s') ∧ Q s'
  | 0, _, _, hm => absurd hm (Nat.not_lt_zero _)
  | k + 1, s, hI, hm => by
    rcases h s hI with ⟨s', h1, h1', h2, h3⟩ | ⟨s', h1, h1', h2⟩
    · obtain ⟨s'', h4, h4', h5⟩ := whX2_inv I Q m h k s' h2 (by omega)
      exact ⟨s'', by simp only [whX, h1, Option.bind_some]; exact h4, by simp only [whX, h1', Option.bind_some]; exact h4', h5⟩
    · exact ⟨s', by simp only [whX, h1, Option.bind_some], by simp only [whX, h1', Option.bind_some], h2⟩
theorem fuel_big {n : Nat} (h : n < 18446744073709551616) : n < fuel := h

/-- A coefficient that is taken. -/
def cfOk (n : Int) : Bool := decide (-1000000000 ≤ n) && decide (n ≤ 1000000000)
def rOk (x : TRing) : Bool := cfOk x.A && cfOk x.B && cfOk x.C && cfOk x.D
def rEven (x : TRing) : Bool := (Int.tmod (IntKind.i64.wrap (x.A + x.C)) 2 == 0) && (Int.tmod (IntKind.i64.wrap (x.B + x.D)) 2 == 0)
def dOk (x : TDyadic) : Bool := rOk x.Num && (decide (0 ≤ x.Exp) && decide (x.Exp ≤ 60)) && ((x.Exp == 0) || !rEven x.Num)
theorem cfOk_iff {n : Int} : cfOk n = true ↔ -1000000000 ≤ n ∧ n ≤ 1000000000 := by simp [cfOk]
theorem rOk_iff {x : TRing} : rOk x = true ↔ ((-1000000000 ≤ x.A ∧ x.A ≤ 1000000000) ∧ (-1000000000 ≤ x.B ∧ x.B ≤ 1000000000)) ∧ ((-1000000000 ≤ x.C ∧ x.C ≤ 1000000000) ∧ (-1000000000 ≤ x.D ∧ x.D ≤ 1000000000)) := by
  simp only [rOk, Bool.and_eq_true, cfOk_iff]
  constructor
  · rintro ⟨⟨⟨a, b⟩, c⟩, d⟩; exact ⟨⟨a, b⟩, c, d⟩
  · rintro ⟨⟨a, b⟩, c, d⟩; exact ⟨⟨⟨a, b⟩, c⟩, d⟩
theorem spec_ring (x : TRing) : F_spec_l1Good x = some (rOk x) := by
  unfold F_spec_l1Good F_spec_l1All
  rw [chk_t (by simp)]
  rcases forX_any (f := F_spec_l1All_l1 [x.A, x.B, x.C, x.D] (-1000000000) 1000000000) (l := [x.A, x.B, x.C, x.D]) (p := fun n => !cfOk n) (q := fun _ => false) (fun i y hy => by
    have e : F_spec_l1In y (-1000000000) 1000000000 = some (cfOk y) := rfl
    unfold F_spec_l1All_l1; simp only [getI_nat, hy, Option.bind_some, e]; cases cfOk y <;> rfl) with ⟨h1, h2⟩ | ⟨h1, i, _, h2⟩
  · rw [h2]; simp at h1; simp [orR, rOk, h1]
  · rw [h2]; simp only [Option.bind_some, orR]; congr 1; symm
    cases h : rOk x with
    | false => rfl
    | true => simp only [rOk, Bool.and_eq_true] at h; simp [h] at h1
theorem impl_coef (n : Int) : F_impl_isCoef n = some (cfOk n) := rfl
theorem impl_ring (x : TRing) : F_impl_IsValidRing x = some (rOk x) := by
  unfold F_impl_IsValidRing rOk
  simp only [impl_coef, Option.bind_some, gb]
  cases cfOk x.A <;> cases cfOk x.B <;> cases cfOk x.C <;> cases cfOk x.D <;> rfl
theorem spec_even (x : TRing) : F_spec_l1Even x = some (rEven x) := rfl
theorem impl_even (x : TRing) : F_impl_isEven x = some (rEven x) := rfl
theorem impl_dyadic (x : TDyadic) : F_impl_IsValidDyadic x = some (dOk x) := by
  unfold F_impl_IsValidDyadic F_impl_within dOk
  simp only [impl_ring, impl_even, Option.bind_some, gb]
  cases rOk x.Num <;> cases decide (0 ≤ x.Exp) && decide (x.Exp ≤ 60) <;> cases x.Exp == 0 <;> cases rEven x.Num <;> rfl
def rZero : TRing := TRing.mk 0 0 0 0
def dZero : TDyadic := TDyadic.mk rZero 0
theorem ring_if (out : TRing) (args : List TRing) (hl : args.length ≤ 10) : F_impl_ringIf out args = some (if args.all rOk && rOk out then (out, true) else (rZero, false)) := by
  unfold F_impl_ringIf
  rw [chk_t (by omega), chk_t (by simp; omega)]
  rcases forX_any (f := F_impl_ringIf_l1 args out) (l := args ++ [out]) (p := fun x => !rOk x) (q := fun _ => (TRing.mk 0 0 0 0, false)) (fun i y hy => by
    unfold F_impl_ringIf_l1; simp only [getI_nat, hy, Option.bind_some, impl_ring]; cases rOk y <;> rfl) with ⟨h1, h2⟩ | ⟨h1, i, _, h2⟩
  · rw [h2]
    have : (args.all rOk && rOk out) = true := by
      simp only [List.any_append, List.any_cons, List.any_nil, Bool.or_false, Bool.or_eq_false_iff] at h1
      simp only [Bool.and_eq_true, List.all_eq_true]
      exact ⟨fun x hx => by have := List.any_eq_false.1 h1.1 x hx; simpa using this, by simpa using h1.2⟩
    rw [this]; rfl
  · rw [h2]
    have : (args.all rOk && rOk out) = false := by
      simp only [List.any_append, List.any_cons, List.any_nil, Bool.or_false, Bool.or_eq_true] at h1
      rcases h1 with h | h
      · obtain ⟨x, hx, hp⟩ := List.any_eq_true.1 h
        have : args.all rOk = false := by rw [List.all_eq_false]; exact ⟨x, hx, by simpa using hp⟩
        rw [this]; rfl
      · simp at h; rw [h]; simp
    rw [this]; rfl

def rHalf (x : TRing) : TRing := TRing.mk (Int.tdiv (x.B - x.D) 2) (Int.tdiv (x.A + x.C) 2) (Int.tdiv (x.B + x.D) 2) (Int.tdiv (x.C - x.A) 2)
def rRoot (x : TRing) : TRing := TRing.mk (x.B - x.D) (x.A + x.C) (x.B + x.D) (x.C - x.A)
theorem wr {a : Int} (h : -9000000000000000000 ≤ a ∧ a ≤ 9000000000000000000) : IntKind.i64.wrap a = a := wrap_i64 ⟨by omega, by omega⟩
theorem tdiv_le' {a : Int} (h : -2000000000 ≤ a ∧ a ≤ 2000000000) : -1000000000 ≤ Int.tdiv a 2 ∧ Int.tdiv a 2 ≤ 1000000000 := by
  rcases Int.le_total 0 a with h0 | h0
  · rw [Int.tdiv_eq_ediv_of_nonneg h0]; omega
  · have e : a = -(-a) := by omega
    rw [e, Int.neg_tdiv, Int.tdiv_eq_ediv_of_nonneg (by omega)]; omega
theorem half_ok {x : TRing} (h : rOk x = true) : rOk (rHalf x) = true := by
  rw [rOk_iff] at h ⊢
  exact ⟨⟨tdiv_le' (by omega), tdiv_le' (by omega)⟩, tdiv_le' (by omega), tdiv_le' (by omega)⟩
theorem spec_root {x : TRing} (h : rOk x = true) : F_spec_l1Root x = some (rRoot x) := by
  rw [rOk_iff] at h
  unfold F_spec_l1Root rRoot
  rw [wr (a := x.B - x.D) (by omega), wr (a := x.A + x.C) (by omega), wr (a := x.B + x.D) (by omega), wr (a := x.C - x.A) (by omega)]
theorem spec_half {x : TRing} (h : rOk x = true) : F_spec_l1Half x = some (rHalf x) := by
  unfold F_spec_l1Half
  rw [spec_root h]
  have h' := h
  rw [rOk_iff] at h
  have t := half_ok h'
  rw [rOk_iff] at t
  simp only [Option.bind_some, rRoot]
  unfold rHalf at t ⊢
  simp only at t
  rw [wr (a := Int.tdiv (x.B - x.D) 2) (by omega), wr (a := Int.tdiv (x.A + x.C) 2) (by omega), wr (a := Int.tdiv (x.B + x.D) 2) (by omega), wr (a := Int.tdiv (x.C - x.A) 2) (by omega)]
theorem impl_half {x : TRing} (h : rOk x = true) (he : rEven x = true) : F_impl_DivRootTwo x = some (rHalf x, true) := by
  unfold F_impl_DivRootTwo
  have h' := h
  have t := half_ok h'
  have tt := t
  rw [rOk_iff] at h t
  simp only [impl_ring, impl_even, h', he, Option.bind_some, gb, Bool.not_true, Bool.not_false, cond_true, Bool.or_self, cond_false]
  rw [wr (a := x.B - x.D) (by omega), wr (a := x.A + x.C) (by omega), wr (a := x.B + x.D) (by omega), wr (a := x.C - x.A) (by omega)]
  unfold rHalf at t tt ⊢
  simp only at t
  rw [wr (a := Int.tdiv (x.B - x.D) 2) (by omega), wr (a := Int.tdiv (x.A + x.C) 2) (by omega), wr (a := Int.tdiv (x.B + x.D) 2) (by omega), wr (a := Int.tdiv (x.C - x.A) 2) (by omega)]
  rw [ring_if _ _ (by simp)]
  simp [h', tt]
/-- Both bring a number to its lowest terms, and alike. -/
theorem low_both {x : TRing} {e : Int} (hx : rOk x = true) (he : 0 ≤ e ∧ e ≤ 60) : ∃ z, F_spec_l2Low x e = some z ∧ F_impl_DyadicOf x e = some (z, true) ∧ dOk z = true := by
  obtain ⟨⟨e', A, B, C, D⟩, h1, h2, h3, h4, h5, h6⟩ := whX2_inv (f := F_spec_l2Low_l1) (g := F_impl_DyadicOf_l1) (fun s => rOk (TRing.mk s.2.1 s.2.2.1 s.2.2.2.1 s.2.2.2.2) = true ∧ 0 ≤ s.1 ∧ s.1 ≤ 60)
    (fun s => rOk (TRing.mk s.2.1 s.2.2.1 s.2.2.2.1 s.2.2.2.2) = true ∧ 0 ≤ s.1 ∧ s.1 ≤ 60 ∧ ((s.1 == 0) || !rEven (TRing.mk s.2.1 s.2.2.1 s.2.2.2.1 s.2.2.2.2)) = true) (fun s => s.1.toNat)
    (fun s ⟨hr, h0, h60⟩ => by
      obtain ⟨e, A, B, C, D⟩ := s
      simp only at hr h0 h60
      unfold F_spec_l2Low_l1 F_impl_DyadicOf_l1
      simp only [spec_even, impl_even, Option.bind_some, gb]
      by_cases hpos : 0 < e
      · rw [decide_eq_true hpos]
        cases hev : rEven (TRing.mk A B C D) with
        | true =>
          simp only [cond_true, Bool.and_self, spec_half hr, impl_half hr hev, Option.bind_some]
          refine .inl ⟨_, rfl, rfl, ⟨half_ok hr, ?_⟩, ?_⟩
          · show 0 ≤ IntKind.i64.wrap (e - 1) ∧ IntKind.i64.wrap (e - 1) ≤ 60
            rw [wr (by omega)]; omega
          · show (IntKind.i64.wrap (e - 1)).toNat < e.toNat
            rw [wr (by omega)]; omega
        | false =>
          simp only [cond_true, Bool.and_false, cond_false]
          exact .inr ⟨_, rfl, rfl, hr, h0, h60, by simp [hev]⟩
      · rw [decide_eq_false hpos]
        simp only [cond_false, Bool.false_and]
        have : e = 0 := by omega
        exact .inr ⟨_, rfl, rfl, hr, h0, h60, by simp [this]⟩)
    fuel (e, x.A, x.B, x.C, x.D) ⟨hx, he.1, he.2⟩ (fuel_big (by omega))
  refine ⟨TDyadic.mk (TRing.mk A B C D) e', ?_, ?_, ?_⟩
  · unfold F_spec_l2Low; rw [h1]; rfl
  · unfold F_impl_DyadicOf F_impl_within
    simp only [impl_ring, hx, Option.bind_some, gb, Bool.not_true, Bool.not_false, cond_true, Bool.false_or]
    rw [decide_eq_true he.1, decide_eq_true he.2]
    simp only [Bool.and_self, Bool.not_true, cond_false]
    rw [h2]; rfl
  · simp only at h3 h4 h5 h6
    unfold dOk
    simp only [h3, decide_eq_true h4, decide_eq_true h5, Bool.true_and, Bool.and_self]
    exact h6

theorem d_parts {x : TDyadic} (h : dOk x = true) : rOk x.Num = true ∧ 0 ≤ x.Exp ∧ x.Exp ≤ 60 := by
  unfold dOk at h
  simp only [Bool.and_eq_true, decide_eq_true_eq] at h
  exact ⟨h.1.1, h.1.2.1, h.1.2.2⟩
theorem dZero_ok : dOk dZero = true := by decide
theorem rZero_ok : rOk rZero = true := by decide
def cB (b : Bool) : Tl2C := Tl2C.mk b
theorem spec_cring (b : Bool) (x : TRing) : F_spec_l2C_ring (cB b) x = some (if rOk x then (x, cB b) else (rZero, cB true)) := by
  unfold F_spec_l2C_ring
  rw [spec_ring]
  simp only [Option.bind_some]
  cases rOk x <;> rfl
def rMul (x y : TRing) : TRing := (F_spec_l1Mul x y).getD rZero
theorem impl_rmul {x y : TRing} (hx : rOk x = true) (hy : rOk y = true) : F_impl_MulRing x y = some (if rOk (rMul x y) then (rMul x y, true) else (rZero, false)) := by
  have e := ring_if (rMul x y) [x, y] (by simp)
  simp only [List.all_cons, List.all_nil, hx, hy, Bool.true_and] at e
  have e2 : F_impl_MulRing x y = (F_impl_ringIf (rMul x y) [x, y]).bind fun p => some (p.1, p.2) := rfl
  rw [e2, e]
  cases rOk (rMul x y) <;> rfl
theorem mul_both {x y : TDyadic} (hx : dOk x = true) (hy : dOk y = true) :
    (∃ z, dOk z = true ∧ (∀ b, F_spec_l2C_mul (cB b) x y = some (z, cB b)) ∧ F_impl_MulDyadic x y = some (z, true)) ∨
      ((∀ b, ∃ z, dOk z = true ∧ F_spec_l2C_mul (cB b) x y = some (z, cB true)) ∧ F_impl_MulDyadic x y = some (dZero, false)) := by
  obtain ⟨x1, x2, x3⟩ := d_parts hx
  obtain ⟨y1, y2, y3⟩ := d_parts hy
  have hw : IntKind.i64.wrap (x.Exp + y.Exp) = x.Exp + y.Exp := wr (by omega)
  have hi : ∀ q : TRing × Bool, F_impl_MulRing x.Num y.Num = some q → F_impl_MulDyadic x y = (bif !q.2 then some (dZero, false) else (F_impl_DyadicOf q.1 (x.Exp + y.Exp)).bind fun p => some (p.1, p.2)) := fun q hq => by
    unfold F_impl_MulDyadic
    rw [hq]
    simp only [Option.bind_some, impl_dyadic, hx, hy, gb, Bool.not_true, Bool.not_false, cond_true, Bool.false_or, hw]
    rfl
  by_cases he : x.Exp + y.Exp ≤ 60
  · have hs : ∀ b, F_spec_l2C_mul (cB b) x y = (F_spec_l2C_ring (cB b) (rMul x.Num y.Num)).bind fun p => (F_spec_l2Low p.1 (x.Exp + y.Exp)).bind fun r => some (r, p.2) := fun b => by
      unfold F_spec_l2C_mul
      rw [hw, decide_eq_false (show ¬ (60 : Int) < x.Exp + y.Exp by omega)]
      rfl
    cases hr : rOk (rMul x.Num y.Num) with
    | true =>
      obtain ⟨z, z1, z2, z3⟩ := low_both hr (e := x.Exp + y.Exp) ⟨by omega, he⟩
      refine .inl ⟨z, z3, fun b => ?_, ?_⟩
      · rw [hs, spec_cring, hr]; simp only [if_true, Option.bind_some, z1]
      · rw [hi _ (impl_rmul x1 y1), hr]; simp only [if_true, Bool.not_true, cond_false, z2, Option.bind_some]
    | false =>
      refine .inr ⟨fun b => ?_, ?_⟩
      · obtain ⟨z, z1, z2, z3⟩ := low_both rZero_ok (e := x.Exp + y.Exp) ⟨by omega, he⟩
        exact ⟨z, z3, by rw [hs, spec_cring, hr]; simp only [Bool.false_eq_true, if_false, Option.bind_some, z1]⟩
      · rw [hi _ (impl_rmul x1 y1), hr]; rfl
  · refine .inr ⟨fun b => ⟨dZero, dZero_ok, ?_⟩, ?_⟩
    · unfold F_spec_l2C_mul
      rw [hw, decide_eq_true (show (60 : Int) < x.Exp + y.Exp by omega)]
      rfl
    · rw [hi _ (impl_rmul x1 y1)]
      cases hr : rOk (rMul x.Num y.Num) with
      | false => rfl
      | true =>
        simp only [if_true, Bool.not_true, cond_false]
        unfold F_impl_DyadicOf F_impl_within
        simp only [impl_ring, hr, Option.bind_some, gb, Bool.not_true, Bool.not_false, cond_true, Bool.false_or]
        rw [decide_eq_false (show ¬ x.Exp + y.Exp ≤ 60 by omega)]
        simp only [Bool.and_false, Bool.not_false, cond_true]
        rfl

theorem impl_root {x : TRing} (h : rOk x = true) : F_impl_MulRootTwo x = some (if rOk (rRoot x) then (rRoot x, true) else (rZero, false)) := by
  unfold F_impl_MulRootTwo
  have h' := h
  rw [rOk_iff] at h
  rw [wr (a := x.B - x.D) (by omega), wr (a := x.A + x.C) (by omega), wr (a := x.B + x.D) (by omega), wr (a := x.C - x.A) (by omega)]
  have e := ring_if (rRoot x) [x] (by simp)
  simp only [List.all_cons, List.all_nil, h', Bool.true_and] at e
  show (F_impl_ringIf (rRoot x) [x]).bind _ = _
  rw [e]
  cases rOk (rRoot x) <;> rfl
def rTup (b : Bool) (x : TRing) (e : Int) : Bool × Int × Int × Int × Int × Int := (b, x.A, x.B, x.C, x.D, e)
def iTup (x : TRing) (ok : Bool) (e : Int) : Int × Int × Int × Int × Bool × Int := (x.A, x.B, x.C, x.D, ok, e)
/-- A number's numerator for a greater exponent, in the specification's loop. -/
theorem spec_raise {f : Bool × Int × Int × Int × Int × Int → Option (Ex (Bool × Int × Int × Int × Int × Int) (TDyadic × Tl2C))} {E : Int} (hE : E ≤ 60)
    (hf : ∀ b x e, rOk x = true → 0 ≤ e → e ≤ 60 → f (rTup b x e) = some (bif decide (e < E) then .nx (if rOk (rRoot x) then rTup b (rRoot x) (e + 1) else rTup true rZero (e + 1)) else .br (rTup b x e))) :
    ∀ (k : Nat) (b : Bool) (x : TRing) (e : Int), rOk x = true → 0 ≤ e → e ≤ E → (E - e).toNat < k → ∃ b' x', whX f k (rTup b x e) = some (.inl (rTup b' x' E)) ∧ rOk x' = true ∧ (b = true → b' = true)
  | 0, _, _, _, _, _, _, hk => absurd hk (Nat.not_lt_zero _)
  | k + 1, b, x, e, hx, h0, h1, hk => by
    have h := hf b x e hx h0 (by omega)
    by_cases hlt : e < E
    · rw [decide_eq_true hlt, cond_true] at h
      cases hr : rOk (rRoot x) with
      | true =>
        rw [hr] at h; simp only [if_true] at h
        obtain ⟨b', x', e1, e2, e3⟩ := spec_raise hE hf k b (rRoot x) (e + 1) hr (by omega) (by omega) (by omega)
        exact ⟨b', x', by simp only [whX, h, Option.bind_some]; exact e1, e2, e3⟩
      | false =>
        rw [hr] at h; simp only [Bool.false_eq_true, if_false] at h
        obtain ⟨b', x', e1, e2, e3⟩ := spec_raise hE hf k true rZero (e + 1) rZero_ok (by omega) (by omega) (by omega)
        exact ⟨b', x', by simp only [whX, h, Option.bind_some]; exact e1, e2, fun _ => e3 rfl⟩
    · rw [decide_eq_false hlt, cond_false] at h
      have : e = E := by omega
      subst this
      exact ⟨b, x, by simp only [whX, h, Option.bind_some], hx, id⟩
theorem impl_raise_step {E : Int} {x : TRing} {e : Int} (hx : rOk x = true) (h0 : 0 ≤ e) (h1 : e ≤ 60) (ok : Bool) :
    F_impl_raised_l1 E (iTup x ok e) = some (bif decide (e < E) && ok then .nx (if rOk (rRoot x) then iTup (rRoot x) true (e + 1) else iTup rZero false (e + 1)) else .br (iTup x ok e)) := by
  unfold F_impl_raised_l1 iTup
  simp only [impl_root hx]
  rw [wr (a := e + 1) (by omega)]
  cases decide (e < E) && ok <;> cases rOk (rRoot x) <;> rfl
theorem raise_both {f : Bool × Int × Int × Int × Int × Int → Option (Ex (Bool × Int × Int × Int × Int × Int) (TDyadic × Tl2C))} {E : Int} (hE : E ≤ 60)
    (hf : ∀ b x e, rOk x = true → 0 ≤ e → e ≤ 60 → f (rTup b x e) = some (bif decide (e < E) then .nx (if rOk (rRoot x) then rTup b (rRoot x) (e + 1) else rTup true rZero (e + 1)) else .br (rTup b x e))) :
    ∀ (k : Nat) (x : TRing) (e : Int), rOk x = true → 0 ≤ e → e ≤ E → (E - e).toNat < k →
      (∃ x', rOk x' = true ∧ (∀ b, whX f k (rTup b x e) = some (.inl (rTup b x' E))) ∧ whX (F_impl_raised_l1 E) k (iTup x true e) = some (.inl (iTup x' true E))) ∨
        ((∀ b, ∃ x', rOk x' = true ∧ whX f k (rTup b x e) = some (.inl (rTup true x' E))) ∧ ∃ x'' e', rOk x'' = true ∧ whX (F_impl_raised_l1 E) k (iTup x true e) = some (.inl (iTup x'' false e')))
  | 0, _, _, _, _, _, hk => absurd hk (Nat.not_lt_zero _)
  | k + 1, x, e, hx, h0, h1, hk => by
    have h := fun b => hf b x e hx h0 (by omega)
    have hg := impl_raise_step (E := E) hx h0 (by omega) true
    by_cases hlt : e < E
    · simp only [decide_eq_true hlt, cond_true, Bool.true_and] at h hg
      cases hr : rOk (rRoot x) with
      | true =>
        simp only [hr, if_true] at h hg
        rcases raise_both hE hf k (rRoot x) (e + 1) hr (by omega) (by omega) (by omega) with ⟨x', e1, e2, e3⟩ | ⟨e1, x'', e', e2, e3⟩
        · exact .inl ⟨x', e1, fun b => by simp only [whX, h, Option.bind_some]; exact e2 b, by simp only [whX, hg, Option.bind_some]; exact e3⟩
        · refine .inr ⟨fun b => ?_, x'', e', e2, by simp only [whX, hg, Option.bind_some]; exact e3⟩
          obtain ⟨x', e4, e5⟩ := e1 b
          exact ⟨x', e4, by simp only [whX, h, Option.bind_some]; exact e5⟩
      | false =>
        simp only [hr, Bool.false_eq_true, if_false] at h hg
        refine .inr ⟨fun b => ?_, rZero, e + 1, rZero_ok, ?_⟩
        · obtain ⟨b', x', e1, e2, e3⟩ := spec_raise hE hf k true rZero (e + 1) rZero_ok (by omega) (by omega) (by omega)
          have : b' = true := e3 rfl
          subst this
          exact ⟨x', e2, by simp only [whX, h, Option.bind_some]; exact e1⟩
        · cases k with
          | zero => omega
          | succ k =>
            have hg2 := impl_raise_step (E := E) rZero_ok (show 0 ≤ e + 1 by omega) (by omega) false
            simp only [Bool.and_false, cond_false] at hg2
            simp only [whX, hg, Option.bind_some, hg2]
    · simp only [decide_eq_false hlt, cond_false, Bool.false_and] at h hg
      have : e = E := by omega
      subst this
      exact .inl ⟨x, hx, fun b => by simp only [whX, h, Option.bind_some], by simp only [whX, hg, Option.bind_some]⟩
def rAdd (x y : TRing) : TRing := (F_spec_l1Add x y).getD rZero
theorem impl_radd {x y : TRing} (hx : rOk x = true) (hy : rOk y = true) : F_impl_AddRing x y = some (if rOk (rAdd x y) then (rAdd x y, true) else (rZero, false)) := by
  have e := ring_if (rAdd x y) [x, y] (by simp)
  simp only [List.all_cons, List.all_nil, hx, hy, Bool.true_and] at e
  have e2 : F_impl_AddRing x y = (F_impl_ringIf (rAdd x y) [x, y]).bind fun p => some (p.1, p.2) := rfl
  rw [e2, e]
  cases rOk (rAdd x y) <;> rfl
theorem add_l1 (y : TDyadic) (b : Bool) (x : TRing) (e : Int) (hx : rOk x = true) (h0 : 0 ≤ e) (h1 : e ≤ 60) :
    F_spec_l2C_add_l1 y (rTup b x e) = some (bif decide (e < y.Exp) then .nx (if rOk (rRoot x) then rTup b (rRoot x) (e + 1) else rTup true rZero (e + 1)) else .br (rTup b x e)) := by
  have hr := spec_cring b (rRoot x)
  unfold cB at hr
  unfold F_spec_l2C_add_l1 rTup
  simp only [spec_root hx, hr, Option.bind_some]
  rw [wr (a := e + 1) (by omega)]
  cases decide (e < y.Exp) <;> cases rOk (rRoot x) <;> rfl
theorem add_l2 (E : Int) (b0 : Bool) (A C D : Int) (b : Bool) (x : TRing) (e : Int) (hx : rOk x = true) (h0 : 0 ≤ e) (h1 : e ≤ 60) :
    F_spec_l2C_add_l2 E b0 A C D (rTup b x e) = some (bif decide (e < E) then .nx (if rOk (rRoot x) then rTup b (rRoot x) (e + 1) else rTup true rZero (e + 1)) else .br (rTup b x e)) := by
  have hr := spec_cring b (rRoot x)
  unfold cB at hr
  unfold F_spec_l2C_add_l2 rTup
  simp only [spec_root hx, hr, Option.bind_some]
  rw [wr (a := e + 1) (by omega)]
  cases decide (e < E) <;> cases rOk (rRoot x) <;> rfl
/-- The end of a sum in the specification. -/
def fin (b : Bool) (a c : TRing) (E : Int) : Option (TDyadic × Tl2C) :=
  (F_spec_l2C_ring (cB b) (rAdd a c)).bind fun p => (F_spec_l2Low p.1 E).bind fun r => some (r, p.2)
theorem fin_bad (a c : TRing) {E : Int} (hE : 0 ≤ E ∧ E ≤ 60) : ∃ z, dOk z = true ∧ fin true a c E = some (z, cB true) := by
  unfold fin
  rw [spec_cring]
  cases hr : rOk (rAdd a c) with
  | true =>
    obtain ⟨z, z1, _, z3⟩ := low_both hr hE
    exact ⟨z, z3, by simp only [if_true, Option.bind_some, z1]⟩
  | false =>
    obtain ⟨z, z1, _, z3⟩ := low_both rZero_ok hE
    exact ⟨z, z3, by simp only [Bool.false_eq_true, if_false, Option.bind_some, z1]⟩
theorem fin_both {a c : TRing} {E : Int} (hE : 0 ≤ E ∧ E ≤ 60) :
    (rOk (rAdd a c) = true ∧ ∃ z, dOk z = true ∧ (∀ b, fin b a c E = some (z, cB b)) ∧ F_impl_DyadicOf (rAdd a c) E = some (z, true)) ∨ (rOk (rAdd a c) = false ∧ ∀ b, ∃ z, dOk z = true ∧ fin b a c E = some (z, cB true)) := by
  cases hr : rOk (rAdd a c) with
  | true =>
    obtain ⟨z, z1, z2, z3⟩ := low_both hr hE
    exact .inl ⟨rfl, z, z3, fun b => by unfold fin; rw [spec_cring, hr]; simp only [if_true, Option.bind_some, z1], z2⟩
  | false =>
    obtain ⟨z, z1, _, z3⟩ := low_both rZero_ok hE
    exact .inr ⟨rfl, fun b => ⟨z, z3, by unfold fin; rw [spec_cring, hr]; simp only [Bool.false_eq_true, if_false, Option.bind_some, z1]⟩⟩
/-- The specification's sum: its two loops, then its end. -/
theorem spec_add_eq (b : Bool) (x y : TDyadic) {b1 b2 : Bool} {a c : TRing} {e1 e2 : Int} (h1 : whX (F_spec_l2C_add_l1 y) fuel (rTup b x.Num x.Exp) = some (.inl (rTup b1 a e1)))
    (h2 : whX (F_spec_l2C_add_l2 e1 b1 a.A a.C a.D) fuel (rTup b1 y.Num y.Exp) = some (.inl (rTup b2 c e2))) : F_spec_l2C_add (cB b) x y = fin b2 a c e1 := by
  unfold F_spec_l2C_add
  unfold rTup at h1 h2
  show (whX (F_spec_l2C_add_l1 y) fuel (b, x.Num.A, x.Num.B, x.Num.C, x.Num.D, x.Exp)).bind _ = _
  rw [h1]
  simp only [Option.bind_some, orR]
  rw [h2]
  rfl
theorem raised_of {x : TDyadic} {E : Int} {a : TRing} {ok : Bool} {e : Int} (h : whX (F_impl_raised_l1 E) fuel (iTup x.Num true x.Exp) = some (.inl (iTup a ok e))) : F_impl_raised x E = some (a, ok) := by
  unfold F_impl_raised
  unfold iTup at h
  rw [h]
  rfl
theorem comb_add {x y : TDyadic} (hx : dOk x = true) (hy : dOk y = true) {E : Int} (hE : (if x.Exp < y.Exp then y.Exp else x.Exp) = E) {a c : TRing} {oa oc : Bool} (h1 : F_impl_raised x E = some (a, oa)) (h2 : F_impl_raised y E = some (c, oc))
    (ha : rOk a = true) (hc : rOk c = true) : F_impl_AddDyadic x y = (bif oa && oc && rOk (rAdd a c) then F_impl_DyadicOf (rAdd a c) E else some (dZero, false)) := by
  unfold F_impl_AddDyadic F_impl_combined
  rw [hE]
  simp only [impl_dyadic, hx, hy, Option.bind_some, gb, Bool.not_true, Bool.not_false, cond_true, Bool.or_self, cond_false, h1, h2, impl_radd ha hc]
  cases oa <;> cases oc <;> cases hr : rOk (rAdd a c) <;> simp only [Bool.not_true, Bool.not_false, Bool.or_self, Bool.or_true, Bool.true_or, Bool.false_or, Bool.or_false, Bool.and_self, Bool.and_true, Bool.and_false, Bool.true_and, Bool.false_and, if_true, Bool.false_eq_true, if_false, Option.bind_some, cond_true, cond_false]
  all_goals first | rfl | (cases F_impl_DyadicOf (rAdd a c) E <;> rfl)
theorem add_both {x y : TDyadic} (hx : dOk x = true) (hy : dOk y = true) :
    (∃ z, dOk z = true ∧ (∀ b, F_spec_l2C_add (cB b) x y = some (z, cB b)) ∧ F_impl_AddDyadic x y = some (z, true)) ∨
      ((∀ b, ∃ z, dOk z = true ∧ F_spec_l2C_add (cB b) x y = some (z, cB true)) ∧ F_impl_AddDyadic x y = some (dZero, false)) := by
  obtain ⟨x1, x2, x3⟩ := d_parts hx
  obtain ⟨y1, y2, y3⟩ := d_parts hy
  have stay : ∀ {f : Bool × Int × Int × Int × Int × Int → Option (Ex (Bool × Int × Int × Int × Int × Int) (TDyadic × Tl2C))} {t : Bool × Int × Int × Int × Int × Int}, f t = some (.br t) → whX f fuel t = some (.inl t) := fun h => by
    rw [show fuel = (fuel - 1) + 1 from rfl]; simp only [whX, h, Option.bind_some]
  have stayI : ∀ {E : Int} {z : TDyadic}, rOk z.Num = true → 0 ≤ z.Exp → z.Exp ≤ 60 → ¬ z.Exp < E → F_impl_raised z E = some (z.Num, true) := fun {E z} h h0 h1 hn => by
    refine raised_of (e := z.Exp) ?_
    have := impl_raise_step (E := E) h h0 h1 true
    simp only [decide_eq_false hn, Bool.false_and, cond_false] at this
    rw [show fuel = (fuel - 1) + 1 from rfl]; simp only [whX, this, Option.bind_some]
  by_cases hlt : x.Exp < y.Exp
  · have hE : (if x.Exp < y.Exp then y.Exp else x.Exp) = y.Exp := if_pos hlt
    have hst : ∀ (b : Bool) (a : TRing), whX (F_spec_l2C_add_l2 y.Exp b a.A a.C a.D) fuel (rTup b y.Num y.Exp) = some (.inl (rTup b y.Num y.Exp)) := fun b a => stay (by
      rw [add_l2 _ _ _ _ _ _ _ _ y1 y2 y3, decide_eq_false (by omega)]; rfl)
    rcases raise_both (f := F_spec_l2C_add_l1 y) (E := y.Exp) y3 (add_l1 y) fuel x.Num x.Exp x1 x2 (by omega) (fuel_big (by omega)) with ⟨a, a1, a2, a3⟩ | ⟨a1, a, e', a2, a3⟩
    · have hc := comb_add hx hy hE (raised_of a3) (stayI y1 y2 y3 (by omega)) a1 y1
      rcases fin_both (a := a) (c := y.Num) (E := y.Exp) ⟨y2, y3⟩ with ⟨r1, z, z1, z2, z3⟩ | ⟨r1, z1⟩
      · exact .inl ⟨z, z1, fun b => by rw [spec_add_eq b x y (a2 b) (hst b a)]; exact z2 b, by rw [hc, r1]; exact z3⟩
      · refine .inr ⟨fun b => ?_, by rw [hc, r1]; rfl⟩
        obtain ⟨z, z2, z3⟩ := z1 b
        exact ⟨z, z2, by rw [spec_add_eq b x y (a2 b) (hst b a)]; exact z3⟩
    · have hc := comb_add hx hy hE (raised_of a3) (stayI y1 y2 y3 (by omega)) a2 y1
      refine .inr ⟨fun b => ?_, by rw [hc]; rfl⟩
      obtain ⟨a', _, a5⟩ := a1 b
      obtain ⟨z, z2, z3⟩ := fin_bad a' y.Num (E := y.Exp) ⟨y2, y3⟩
      exact ⟨z, z2, by rw [spec_add_eq b x y a5 (hst true a')]; exact z3⟩
  · have hE : (if x.Exp < y.Exp then y.Exp else x.Exp) = x.Exp := if_neg hlt
    have hst : ∀ (b : Bool), whX (F_spec_l2C_add_l1 y) fuel (rTup b x.Num x.Exp) = some (.inl (rTup b x.Num x.Exp)) := fun b => stay (by
      rw [add_l1 y _ _ _ x1 x2 x3, decide_eq_false (by omega)]; rfl)
    have hr := fun (b0 : Bool) => raise_both (f := F_spec_l2C_add_l2 x.Exp b0 x.Num.A x.Num.C x.Num.D) (E := x.Exp) x3 (add_l2 _ _ _ _ _) fuel y.Num y.Exp y1 y2 (by omega) (fuel_big (by omega))
    have hcm : ∀ {c : TRing} {oc : Bool}, F_impl_raised y x.Exp = some (c, oc) → rOk c = true → F_impl_AddDyadic x y = (bif true && oc && rOk (rAdd x.Num c) then F_impl_DyadicOf (rAdd x.Num c) x.Exp else some (dZero, false)) := fun h hc =>
      comb_add hx hy hE (stayI x1 x2 x3 (by omega)) h x1 hc
    rcases hr true with ⟨c, c1, c2, c3⟩ | ⟨c1, c, e', c2, c3⟩
    · have hc := hcm (raised_of c3) c1
      have hs : ∀ b, F_spec_l2C_add (cB b) x y = fin b x.Num c x.Exp := fun b => by
        rcases hr b with ⟨c', d1, d2, d3⟩ | ⟨_, c', e', _, d3⟩
        · rw [c3] at d3
          have : c = c' := by cases c; cases c'; simp only [iTup, Option.some.injEq, Sum.inl.injEq, Prod.mk.injEq] at d3; simp only [TRing.mk.injEq]; exact ⟨d3.1, d3.2.1, d3.2.2.1, d3.2.2.2.1⟩
          subst this
          exact spec_add_eq b x y (hst b) (d2 b)
        · rw [c3] at d3
          simp [iTup] at d3
      rcases fin_both (a := x.Num) (c := c) (E := x.Exp) ⟨x2, x3⟩ with ⟨r1, z, z1, z2, z3⟩ | ⟨r1, z1⟩
      · exact .inl ⟨z, z1, fun b => by rw [hs]; exact z2 b, by rw [hc, r1]; exact z3⟩
      · refine .inr ⟨fun b => ?_, by rw [hc, r1]; rfl⟩
        obtain ⟨z, z2, z3⟩ := z1 b
        exact ⟨z, z2, by rw [hs]; exact z3⟩
    · have hc := hcm (raised_of c3) c2
      refine .inr ⟨fun b => ?_, by rw [hc]; rfl⟩
      rcases hr b with ⟨c', d1, d2, d3⟩ | ⟨d1, _⟩
      · rw [c3] at d3; simp [iTup] at d3
      · obtain ⟨c', _, d5⟩ := d1 b
        obtain ⟨z, z2, z3⟩ := fin_bad x.Num c' (E := x.Exp) ⟨x2, x3⟩
        exact ⟨z, z2, by rw [spec_add_eq b x y (hst b) d5]; exact z3⟩

def DM (x y : TDyadic) : Option TDyadic := (F_impl_MulDyadic x y).bind fun p => if p.2 then some p.1 else none
def DA (x y : TDyadic) : Option TDyadic := (F_impl_AddDyadic x y).bind fun p => if p.2 then some p.1 else none
/-- An answer of the program: the number, or zero and false. -/
def dR (o : Option TDyadic) : TDyadic × Bool := match o with | some z => (z, true) | none => (dZero, false)
/-- The specification's step f, from whatever flag, ends in the number o, the flag as it was; or, if there is none, in some number and the flag set. -/
def SP {α : Type} (f : Tl2C → Option (α × Tl2C)) (G : α → Prop) (o : Option α) : Prop :=
  ∀ b, ∃ z b', f (cB b) = some (z, cB b') ∧ G z ∧ ((o = some z ∧ b' = b) ∨ (o = none ∧ b' = true))
theorem SP.bind {α β : Type} {f : Tl2C → Option (α × Tl2C)} {G : α → Prop} {o : Option α} (hf : SP f G o) {h : α → Tl2C → Option (β × Tl2C)} {G' : β → Prop} {o' : α → Option β}
    (hh : ∀ z, G z → SP (h z) G' (o' z)) : SP (fun c => (f c).bind fun p => h p.1 p.2) G' (o.bind o') := fun b => by
  obtain ⟨z, b', h1, h2, h3⟩ := hf b
  obtain ⟨z', b'', h4, h5, h6⟩ := hh z h2 b'
  refine ⟨z', b'', by simp only [h1, Option.bind_some]; exact h4, h5, ?_⟩
  rcases h3 with ⟨rfl, rfl⟩ | ⟨rfl, rfl⟩
  · simpa using h6
  · rcases h6 with ⟨_, h6⟩ | ⟨_, h6⟩
    · exact .inr ⟨rfl, h6⟩
    · exact .inr ⟨rfl, h6⟩
theorem SP.pure {α : Type} {G : α → Prop} {z : α} (h : G z) : SP (fun c => some (z, c)) G (some z) := fun b => ⟨z, b, rfl, h, .inl ⟨rfl, rfl⟩⟩
theorem SP.map {α β : Type} {f : Tl2C → Option (α × Tl2C)} {G : α → Prop} {o : Option α} (hf : SP f G o) {g : α → β} {G' : β → Prop} (hg : ∀ z, G z → G' (g z)) : SP (fun c => (f c).bind fun p => some (g p.1, p.2)) G' (o.map g) := by
  have := hf.bind (h := fun z c => some (g z, c)) (o' := fun z => some (g z)) (fun z hz => SP.pure (hg z hz))
  rwa [Option.map_eq_bind]
theorem spM {x y : TDyadic} (hx : dOk x = true) (hy : dOk y = true) : SP (fun c => F_spec_l2C_mul c x y) (fun z => dOk z = true) (DM x y) := fun b => by
  unfold DM
  rcases mul_both hx hy with ⟨z, h1, h2, h3⟩ | ⟨h1, h2⟩
  · exact ⟨z, b, h2 b, h1, .inl ⟨by rw [h3]; rfl, rfl⟩⟩
  · obtain ⟨z, h3, h4⟩ := h1 b
    exact ⟨z, true, h4, h3, .inr ⟨by rw [h2]; rfl, rfl⟩⟩
theorem spA {x y : TDyadic} (hx : dOk x = true) (hy : dOk y = true) : SP (fun c => F_spec_l2C_add c x y) (fun z => dOk z = true) (DA x y) := fun b => by
  unfold DA
  rcases add_both hx hy with ⟨z, h1, h2, h3⟩ | ⟨h1, h2⟩
  · exact ⟨z, b, h2 b, h1, .inl ⟨by rw [h3]; rfl, rfl⟩⟩
  · obtain ⟨z, h3, h4⟩ := h1 b
    exact ⟨z, true, h4, h3, .inr ⟨by rw [h2]; rfl, rfl⟩⟩
theorem imM {x y : TDyadic} (hx : dOk x = true) (hy : dOk y = true) : F_impl_MulDyadic x y = some (dR (DM x y)) := by
  unfold DM
  rcases mul_both hx hy with ⟨z, h1, h2, h3⟩ | ⟨h1, h2⟩
  · rw [h3]; rfl
  · rw [h2]; rfl
/-- What the specification holds (z, and its flag b') beside the number o (or none): the flag before is b; once it is set, it stays. -/
def SR {α : Type} (G : α → Prop) (o : Option α) (b : Bool) (z : α) (b' : Bool) : Prop := G z ∧ (b = true → b' = true) ∧ (b = false → (o = some z ∧ b' = false) ∨ (o = none ∧ b' = true))
theorem SR.bind {α β : Type} {G : α → Prop} {G' : β → Prop} {o : Option α} {o' : α → Option β} {b b' b'' : Bool} {z : α} {z' : β} (h1 : SR G o b z b') (h2 : SR G' (o' z) b' z' b'') : SR G' (o.bind o') b z' b'' := by
  refine ⟨h2.1, fun h => h2.2.1 (h1.2.1 h), fun h => ?_⟩
  rcases h1.2.2 h with ⟨rfl, rfl⟩ | ⟨rfl, rfl⟩
  · exact h2.2.2 rfl
  · exact .inr ⟨rfl, h2.2.1 rfl⟩
theorem SR.bad {α : Type} {G : α → Prop} {o : Option α} {z : α} {b' : Bool} (h : SR G o true z b') : b' = true := h.2.1 rfl
theorem SR.good {α : Type} {G : α → Prop} {o : Option α} {z : α} {b' : Bool} (h : SR G o false z b') : (o = some z ∧ b' = false) ∨ (o = none ∧ b' = true) := h.2.2 rfl
theorem SR.pure {α : Type} {G : α → Prop} {z : α} {b : Bool} (h : G z) : SR G (some z) b z b := ⟨h, id, fun hb => .inl ⟨rfl, hb⟩⟩
theorem SR.mono {α : Type} {G G' : α → Prop} {o : Option α} {b b' : Bool} {z : α} (h : SR G o b z b') (hg : G z → G' z) : SR G' o b z b' := ⟨hg h.1, h.2⟩
theorem SR.map {α β : Type} {G : α → Prop} {G' : β → Prop} {o : Option α} {b b' : Bool} {z : α} (h : SR G o b z b') (g : α → β) (hg : G z → G' (g z)) : SR G' (o.map g) b (g z) b' := by
  refine ⟨hg h.1, h.2.1, fun hb => ?_⟩
  rcases h.2.2 hb with ⟨rfl, h2⟩ | ⟨rfl, h2⟩
  · exact .inl ⟨rfl, h2⟩
  · exact .inr ⟨rfl, h2⟩
theorem sr_of {α : Type} {f : Tl2C → Option (α × Tl2C)} {G : α → Prop} {o : Option α} (h : SP f G o) (b : Bool) : ∃ z b', f (cB b) = some (z, cB b') ∧ SR G o b z b' := by
  obtain ⟨z, b', h1, h2, h3⟩ := h b
  refine ⟨z, b', h1, h2, fun hb => ?_, fun hb => ?_⟩
  · rcases h3 with ⟨_, h3⟩ | ⟨_, h3⟩
    · exact h3.trans hb
    · exact h3
  · rcases h3 with ⟨h3, h4⟩ | ⟨h3, h4⟩
    · exact .inl ⟨h3, h4.trans hb⟩
    · exact .inr ⟨h3, h4⟩
theorem srM {x y : TDyadic} (hx : dOk x = true) (hy : dOk y = true) (b : Bool) : ∃ z b', F_spec_l2C_mul (cB b) x y = some (z, cB b') ∧ SR (fun z => dOk z = true) (DM x y) b z b' := sr_of (spM hx hy) b
theorem srA {x y : TDyadic} (hx : dOk x = true) (hy : dOk y = true) (b : Bool) : ∃ z b', F_spec_l2C_add (cB b) x y = some (z, cB b') ∧ SR (fun z => dOk z = true) (DA x y) b z b' := sr_of (spA hx hy) b
theorem sr_it {β τ : Type} {f : Nat → τ → Option τ} {enc : Bool → β → τ} {G : Nat → β → Prop} {st : Nat → β → Option β} {n : Nat}
    (hf : ∀ k b s, k < n → G k s → ∃ z b', f k (enc b s) = some (enc b' z) ∧ SR (G (k + 1)) (st k s) b z b') :
    ∀ (m i : Nat) (s : β) (b : Bool), i + m ≤ n → G i s → ∃ z b', forN f m i (enc b s) = some (enc b' z) ∧ SR (G (i + m)) (forN st m i s) b z b'
  | 0, i, s, b, _, hG => ⟨s, b, rfl, SR.pure hG⟩
  | m + 1, i, s, b, hm, hG => by
    obtain ⟨z, b', h1, h2⟩ := hf i b s (by omega) hG
    obtain ⟨z', b'', h3, h4⟩ := sr_it hf m (i + 1) z b' (by omega) h2.1
    rw [show i + 1 + m = i + (m + 1) by omega] at h4
    exact ⟨z', b'', by simp only [forN, h1, Option.bind_some]; exact h3, h2.bind h4⟩
/-- A loop of the specification that stops at its flag. -/
theorem sr_wh {β τ ρ : Type} {f : τ → Option (Ex τ ρ)} {enc : Bool → β → Nat → τ} {G : β → Prop} {st : Nat → β → Option β} {n : Nat}
    (hb : ∀ k s, f (enc true s k) = some (.br (enc true s k))) (hn : ∀ s, f (enc false s n) = some (.br (enc false s n)))
    (hf : ∀ k s, k < n → G s → ∃ z b', f (enc false s k) = some (.nx (enc b' z (k + 1))) ∧ SR G (st k s) false z b') :
    ∀ (q m i : Nat) (s : β) (b : Bool), i + m = n → m < q → G s → ∃ z b' k', whX f q (enc b s i) = some (.inl (enc b' z k')) ∧ SR G (forN st m i s) b z b'
  | 0, _, _, _, _, _, hq, _ => absurd hq (Nat.not_lt_zero _)
  | q + 1, m, i, s, true, _, _, hG => ⟨s, true, i, by simp only [whX, hb, Option.bind_some], hG, fun h => h, fun h => by cases h⟩
  | q + 1, 0, i, s, false, hm, _, hG => by
    have : i = n := by omega
    subst this
    exact ⟨s, false, i, by simp only [whX, hn, Option.bind_some], SR.pure hG⟩
  | q + 1, m + 1, i, s, false, hm, hq, hG => by
    obtain ⟨z, b', h1, h2⟩ := hf i s (by omega) hG
    obtain ⟨z', b'', k', h3, h4⟩ := sr_wh hb hn hf q m (i + 1) z b' (by omega) (by omega) h2.1
    exact ⟨z', b'', k', by simp only [whX, h1, Option.bind_some]; exact h3, h2.bind h4⟩
/-- What a loop that may leave the function ends in. -/
def exO {β τ ρ : Type} (enc : β → τ) (R : ρ) (o : Option β) : τ ⊕ ρ := match o with | some z => .inl (enc z) | none => .inr R
def nxO {β τ ρ : Type} (enc : β → τ) (R : ρ) (o : Option β) : Ex τ ρ := match o with | some z => .nx (enc z) | none => .rt R
theorem im_it {β τ ρ : Type} {g : Nat → τ → Option (Ex τ ρ)} {enc : β → τ} {G : Nat → β → Prop} {st : Nat → β → Option β} {R : ρ} {n : Nat}
    (hg : ∀ k s, k < n → G k s → g k (enc s) = some (nxO enc R (st k s)) ∧ ∀ z, st k s = some z → G (k + 1) z) :
    ∀ (m i : Nat) (s : β), i + m ≤ n → G i s → forX g m i (enc s) = some (exO enc R (forN st m i s)) ∧ ∀ z, forN st m i s = some z → G (i + m) z
  | 0, i, s, _, hG => ⟨rfl, fun z h => by cases h; exact hG⟩
  | m + 1, i, s, hm, hG => by
    obtain ⟨h1, h2⟩ := hg i s (by omega) hG
    cases hs : st i s with
    | none =>
      rw [hs] at h1
      refine ⟨by simp only [forX, h1, nxO, Option.bind_some, forN, hs, Option.bind_none, exO], fun z hz => ?_⟩
      simp only [forN, hs, Option.bind_none] at hz; cases hz
    | some z =>
      rw [hs] at h1
      obtain ⟨h3, h4⟩ := im_it hg m (i + 1) z (by omega) (h2 z hs)
      rw [show i + 1 + m = i + (m + 1) by omega] at h4
      exact ⟨by simp only [forX, h1, nxO, Option.bind_some, forN, hs]; exact h3, fun z' hz => h4 z' (by simpa only [forN, hs, Option.bind_some] using hz)⟩
theorem gI {l : List TDyadic} {x : Int} {n : Nat} (hx : x = (n : Int)) (hn : n < l.length) : getI l x = some (l.getD n dZero) := by
  subst hx; rw [getI_nat, List.getElem?_eq_getElem hn]; simp [hn]
theorem getD_ok {l : List TDyadic} (h : ∀ z ∈ l, dOk z = true) (n : Nat) : dOk (l.getD n dZero) = true := by
  rw [List.getD_eq_getElem?_getD]
  cases hx : l[n]? with
  | none => exact dZero_ok
  | some x => exact h x (List.mem_of_getElem? hx)
def sT (b : Bool) (s : TDyadic) : Bool × Int × Int × Int × Int × Int := (b, s.Num.A, s.Num.B, s.Num.C, s.Num.D, s.Exp)
def iT (s : TDyadic) : Int × Int × Int × Int × Int := (s.Num.A, s.Num.B, s.Num.C, s.Num.D, s.Exp)
/-- One more product onto a sum. -/
def dotS (X Y : Nat → TDyadic) (k : Nat) (s : TDyadic) : Option TDyadic := (DM (X k) (Y k)).bind fun p => DA s p
theorem dot_spec {X Y : Nat → TDyadic} (hX : ∀ k, dOk (X k) = true) (hY : ∀ k, dOk (Y k) = true) (k : Nat) (b : Bool) (s : TDyadic) (hs : dOk s = true) :
    ∃ z b', ((F_spec_l2C_mul (cB b) (X k) (Y k)).bind fun p => (F_spec_l2C_add p.2 s p.1).bind fun q => some (sT q.2.bad q.1)) = some (sT b' z) ∧ SR (fun z => dOk z = true) (dotS X Y k s) b z b' := by
  obtain ⟨z, b', h1, h2⟩ := srM (hX k) (hY k) b
  obtain ⟨z', b'', h3, h4⟩ := srA hs h2.1 b'
  exact ⟨z', b'', by simp only [h1, Option.bind_some, h3]; rfl, h2.bind h4⟩
theorem rr_zero : rRoot rZero = rZero := by decide
theorem raise_zero {E : Int} (hE : E ≤ 60) : ∀ (k : Nat) (e : Int), 0 ≤ e → e ≤ E → (E - e).toNat < k → whX (F_impl_raised_l1 E) k (iTup rZero true e) = some (.inl (iTup rZero true E))
  | 0, _, _, _, hk => absurd hk (Nat.not_lt_zero _)
  | k + 1, e, h0, h1, hk => by
    have h := impl_raise_step (E := E) rZero_ok h0 (by omega) true
    by_cases hlt : e < E
    · rw [decide_eq_true hlt, rr_zero, rZero_ok] at h
      simp only [Bool.and_self, cond_true, if_true] at h
      simp only [whX, h, Option.bind_some]
      exact raise_zero hE k (e + 1) (by omega) (by omega) (by omega)
    · rw [decide_eq_false hlt] at h
      simp only [Bool.false_and, cond_false] at h
      have : e = E := by omega
      subst this
      simp only [whX, h, Option.bind_some]
theorem low_id {x : TDyadic} (h : dOk x = true) : F_impl_DyadicOf x.Num x.Exp = some (x, true) := by
  obtain ⟨h1, h2, h3⟩ := d_parts h
  have hl : F_impl_DyadicOf_l1 (x.Exp, x.Num.A, x.Num.B, x.Num.C, x.Num.D) = some (.br (x.Exp, x.Num.A, x.Num.B, x.Num.C, x.Num.D)) := by
    unfold F_impl_DyadicOf_l1
    simp only [impl_even, Option.bind_some, gb]
    unfold dOk at h
    simp only [Bool.and_eq_true, Bool.or_eq_true, beq_iff_eq, Bool.not_eq_true'] at h
    rcases h.2 with h | h
    · rw [decide_eq_false (show ¬ 0 < x.Exp by omega)]; rfl
    · have e : rEven (TRing.mk x.Num.A x.Num.B x.Num.C x.Num.D) = false := h
      rw [e]; cases decide (0 < x.Exp) <;> rfl
  unfold F_impl_DyadicOf F_impl_within
  simp only [impl_ring, h1, Option.bind_some, gb, Bool.not_true, Bool.not_false, cond_true, Bool.false_or]
  rw [decide_eq_true h2, decide_eq_true h3]
  simp only [Bool.and_self, Bool.not_true, cond_false]
  rw [show fuel = (fuel - 1) + 1 from rfl]
  simp only [whX, hl, Option.bind_some, orR]
theorem zero_add {x : TDyadic} (h : dOk x = true) : DA dZero x = some x := by
  obtain ⟨h1, h2, h3⟩ := d_parts h
  have hr := h1
  rw [rOk_iff] at hr
  have e : rAdd rZero x.Num = x.Num := by
    unfold rAdd F_spec_l1Add rZero
    simp only [Int.zero_add, Option.getD_some]
    rw [wr (a := x.Num.A) (by omega), wr (a := x.Num.B) (by omega), wr (a := x.Num.C) (by omega), wr (a := x.Num.D) (by omega)]
  have hE : (if dZero.Exp < x.Exp then x.Exp else dZero.Exp) = x.Exp := by
    show (if (0 : Int) < x.Exp then x.Exp else 0) = x.Exp
    split <;> omega
  have hst : F_impl_raised x x.Exp = some (x.Num, true) := by
    refine raised_of (e := x.Exp) ?_
    have := impl_raise_step (E := x.Exp) h1 h2 h3 true
    simp only [Int.lt_irrefl, decide_false, Bool.false_and, cond_false] at this
    rw [show fuel = (fuel - 1) + 1 from rfl]; simp only [whX, this, Option.bind_some]
  have hz : F_impl_raised dZero x.Exp = some (rZero, true) := raised_of (x := dZero) (raise_zero h3 fuel 0 (by omega) h2 (fuel_big (by omega)))
  have hc := comb_add dZero_ok h hE hz hst rZero_ok h1
  rw [e, h1] at hc
  simp only [Bool.and_self, cond_true, low_id h] at hc
  unfold DA
  rw [hc]; rfl

def okD (l : List TDyadic) : Prop := ∀ z ∈ l, dOk z = true
theorem okD_snoc {l : List TDyadic} {z : TDyadic} (hl : okD l) (hz : dOk z = true) : okD (l ++ [z]) := fun x hx => by
  rcases List.mem_append.1 hx with h | h
  · exact hl x h
  · simp only [List.mem_singleton] at h; subst h; exact hz
def dOne : TDyadic := TDyadic.mk (TRing.mk 1 0 0 0) 0
def dimB (n : Int) : Bool := [1, 2, 4, 8, 16, 32].any fun x => x == n
theorem dim_le {n : Int} (h : dimB n = true) : 1 ≤ n ∧ n ≤ 32 := by
  unfold dimB at h
  simp only [List.any_cons, List.any_nil, Bool.or_false, Bool.or_eq_true, beq_iff_eq] at h
  omega
theorem dim_small : ∀ k : Fin 33, 1 ≤ k.val → (((decide ((1 : Int) ≤ (k.val : Int))) && (decide ((k.val : Int) ≤ 32))) && ((bits .and .i64 (k.val : Int) (IntKind.i64.wrap ((k.val : Int) - 1))) == 0)) = dimB (k.val : Int) := by decide +kernel
theorem impl_dim (n : Int) : F_impl_isDim n = some (dimB n) := by
  unfold F_impl_isDim F_impl_within
  simp only [Option.bind_some]
  by_cases h : 1 ≤ n ∧ n ≤ 32
  · obtain ⟨k, rfl⟩ : ∃ k : Nat, n = k := ⟨n.toNat, by omega⟩
    exact congrArg some (dim_small ⟨k, by omega⟩ (by simp only; omega))
  · have : dimB n = false := by
      cases hd : dimB n with
      | false => rfl
      | true => exact absurd (dim_le hd) h
    rw [this]
    by_cases h1 : 1 ≤ n
    · rw [decide_eq_false (show ¬ n ≤ 32 by omega)]; simp
    · rw [decide_eq_false h1]; simp
theorem ix_lt {R C i j : Nat} (hi : i < R) (hj : j < C) : i * C + j < R * C := by
  have : (i + 1) * C ≤ R * C := Nat.mul_le_mul_right _ hi
  rw [Nat.add_mul] at this; omega
theorem ix {R C i j : Nat} (hi : i < R) (hj : j < C) (hR : R ≤ 32) (hC : C ≤ 32) : IntKind.i64.wrap (IntKind.i64.wrap ((i : Int) * (C : Int)) + (j : Int)) = ((i * C + j : Nat) : Int) := by
  have h1 := ix_lt hi hj
  have h2 : R * C ≤ 32 * 32 := Nat.mul_le_mul hR hC
  have e : (i : Int) * (C : Int) = ((i * C : Nat) : Int) := by push_cast; rfl
  rw [e, wr (a := ((i * C : Nat) : Int)) (by omega), wr (by omega)]
  omega
def gridO (cell : Nat → Nat → Option TDyadic) (R C : Nat) : Option (List TDyadic) := forN (fun i l => forN (fun j l => (cell i j).bind fun z => some (l ++ [z])) C 0 l) R 0 []
def mmCell (a b : List TDyadic) (K C i j : Nat) : Option TDyadic := forN (dotS (fun k => a.getD (i * K + k) dZero) (fun k => b.getD (k * C + j) dZero)) K 0 dZero
def mmO (a b : List TDyadic) (R K C : Nat) : Option (List TDyadic) := gridO (mmCell a b K C) R C
def wT (b : Bool) (s : TDyadic) (k : Nat) : Bool × Int × Int × Int × Int × Int × Int := (b, s.Num.A, s.Num.B, s.Num.C, s.Num.D, s.Exp, (k : Int))
theorem grid_len {R C i j : Nat} (hi : i < R) (hj : j < C) (hR : R ≤ 32) (hC : C ≤ 32) : i * C + j + 1 ≤ 1024 := by
  have h1 := ix_lt hi hj
  have h2 : R * C ≤ 32 * 32 := Nat.mul_le_mul hR hC
  omega
theorem sp_times {R K C : Nat} {la lb : List TDyadic} (ha : okD la) (hb : okD lb) (na : la.length = R * K) (nb : lb.length = K * C) (hR : R ≤ 32) (hK : K ≤ 32) (hC : C ≤ 32) (c : Bool) :
    ∃ l c', F_spec_l2C_times (cB c) (TMatrix.mk R K la) (TMatrix.mk K C lb) = some (TMatrix.mk R C l, cB c') ∧ SR (fun l => okD l ∧ l.length = R * C) (mmO la lb R K C) c l c' := by
  have l3 : ∀ (i j : Nat) (Cells : List TDyadic) (bad b0 : Bool), i < R → j < C → ∃ z b' k', whX (F_spec_l2C_times_l3 (TMatrix.mk R K la) Cells i (TMatrix.mk K C lb) j bad) fuel (wT b0 dZero 0) = some (.inl (wT b' z k')) ∧ SR (fun z => dOk z = true) (mmCell la lb K C i j) b0 z b' := fun i j Cells bad b0 hi hj => by
    refine sr_wh (enc := wT) (G := fun z => dOk z = true) (n := K) (fun k s => ?_) (fun s => ?_) (fun k s hk hs => ?_) fuel K 0 dZero b0 (by omega) (fuel_big (by omega)) dZero_ok
    · unfold F_spec_l2C_times_l3 wT
      simp only [Bool.not_true, Bool.and_false, cond_false]
    · unfold F_spec_l2C_times_l3 wT
      simp only [Int.lt_irrefl, decide_false, Bool.false_and, cond_false]
    · obtain ⟨z, b', h1, h2⟩ := dot_spec (X := fun k => la.getD (i * K + k) dZero) (Y := fun k => lb.getD (k * C + j) dZero) (fun _ => getD_ok ha _) (fun _ => getD_ok hb _) k false s hs
      obtain ⟨p, hp, h1⟩ := Option.bind_eq_some_iff.1 h1
      obtain ⟨q, hq, h1⟩ := Option.bind_eq_some_iff.1 h1
      refine ⟨z, b', ?_, h2⟩
      unfold F_spec_l2C_times_l3 wT
      simp only
      rw [decide_eq_true (show (k : Int) < (K : Int) by omega), ix hi hk hR hK, ix hk hj hK hC, gI (n := i * K + k) rfl (by rw [na]; exact ix_lt hi hk), gI (n := k * C + j) rfl (by rw [nb]; exact ix_lt hk hj)]
      simp only [Bool.not_false, Bool.and_self, cond_true, Option.bind_some]
      rw [show F_spec_l2C_mul (Tl2C.mk false) (la.getD (i * K + k) dZero) (lb.getD (k * C + j) dZero) = some p from hp]
      simp only [Option.bind_some]
      rw [show F_spec_l2C_add p.2 (TDyadic.mk (TRing.mk s.Num.A s.Num.B s.Num.C s.Num.D) s.Exp) p.1 = some q from hq]
      simp only [Option.bind_some]
      have := Option.some.inj h1
      simp only [sT, Prod.mk.injEq] at this
      obtain ⟨t0, t1, t2, t3, t4, t5⟩ := this
      rw [t0, t1, t2, t3, t4, t5, wr (a := (k : Int) + 1) (by omega)]
      rfl
  have l2 : ∀ (i : Nat) (Cells : List TDyadic) (bad b0 : Bool) (l : List TDyadic), i < R → okD l → l.length = i * C → ∃ z b', forN (F_spec_l2C_times_l2 (TMatrix.mk R K la) Cells i (TMatrix.mk K C lb) bad) C 0 (b0, l) = some (b', z) ∧ SR (fun z => okD z ∧ z.length = i * C + C) (forN (fun j l => (mmCell la lb K C i j).bind fun z => some (l ++ [z])) C 0 l) b0 z b' := fun i Cells bad b0 l hi hl hll => by
    have := sr_it (f := F_spec_l2C_times_l2 (TMatrix.mk R K la) Cells i (TMatrix.mk K C lb) bad) (enc := fun b (l : List TDyadic) => (b, l)) (G := fun j z => okD z ∧ z.length = i * C + j) (st := fun j l => (mmCell la lb K C i j).bind fun z => some (l ++ [z])) (n := C) (fun j b1 s hj hs => ?_) C 0 l b0 (by omega) ⟨hl, by omega⟩
    · rw [Nat.zero_add] at this; exact this
    · obtain ⟨z, b', k', h1, h2⟩ := l3 i j Cells bad b1 hi hj
      refine ⟨s ++ [z], b', ?_, h2.bind (SR.pure ⟨okD_snoc hs.1 h2.1, by simp; omega⟩)⟩
      unfold F_spec_l2C_times_l2
      simp only
      rw [show whX (F_spec_l2C_times_l3 (TMatrix.mk R K la) Cells i (TMatrix.mk K C lb) j bad) fuel (b1, 0, 0, 0, 0, 0, 0) = _ from h1]
      simp only [wT, Option.bind_some, orR]
      have := grid_len hi hj hR hC
      rw [chk_t (by omega)]
  obtain ⟨z, b', h1, h2⟩ := sr_it (f := F_spec_l2C_times_l1 (TMatrix.mk K C lb) (TMatrix.mk R K la)) (enc := fun b (l : List TDyadic) => (b, l)) (G := fun i z => okD z ∧ z.length = i * C) (st := fun i l => forN (fun j l => (mmCell la lb K C i j).bind fun z => some (l ++ [z])) C 0 l) (n := R) (fun i b1 s hi hs => by
    obtain ⟨z, b', h1, h2⟩ := l2 i s b1 b1 s hi hs.1 hs.2
    refine ⟨z, b', ?_, h2.mono (fun h => ⟨h.1, by rw [Nat.add_mul]; omega⟩)⟩
    unfold F_spec_l2C_times_l1
    simp only [Int.toNat_natCast]
    rw [chk_t (by omega), h1]; rfl) R 0 [] c (by omega) ⟨fun _ h => (by cases h), by simp⟩
  refine ⟨z, b', ?_, h2.mono (fun h => ⟨h.1, by simpa using h.2⟩)⟩
  unfold F_spec_l2C_times
  simp only [Int.toNat_natCast]
  rw [chk_t (by omega), show forN (F_spec_l2C_times_l1 (TMatrix.mk K C lb) (TMatrix.mk R K la)) R 0 ((cB c).bad, []) = _ from h1]
  rfl
def mR (R C : Nat) (o : Option (List TDyadic)) : TMatrix × Bool := match o with | some l => (TMatrix.mk R C l, true) | none => (TMatrix.mk 0 0 [], false)
theorem im_matrixOf {R C : Nat} {cell : Int → Int → Option (TDyadic × Bool)} {cellO : Nat → Nat → Option TDyadic} (dR' : dimB R = true) (dC : dimB C = true) (hR : R ≤ 32) (hC : C ≤ 32)
    (hcell : ∀ i j : Nat, i < R → j < C → cell i j = some (dR (cellO i j)) ∧ ∀ z, cellO i j = some z → dOk z = true) :
    F_impl_matrixOf R C cell = some (mR R C (gridO cellO R C)) ∧ ∀ l, gridO cellO R C = some l → okD l ∧ l.length = R * C := by
  have l2 : ∀ (i : Nat) (l : List TDyadic), i < R → okD l → l.length = i * C → forX (F_impl_matrixOf_l2 cell i) C 0 l = some (exO id (.rt (TMatrix.mk 0 0 [], false)) (forN (fun j l => (cellO i j).bind fun z => some (l ++ [z])) C 0 l)) ∧
      ∀ z, forN (fun j l => (cellO i j).bind fun z => some (l ++ [z])) C 0 l = some z → okD z ∧ z.length = i * C + C := fun i l hi hl hll => by
    have := im_it (g := F_impl_matrixOf_l2 cell i) (enc := id) (G := fun j z => okD z ∧ z.length = i * C + j) (st := fun j l => (cellO i j).bind fun z => some (l ++ [z])) (R := Ex.rt (TMatrix.mk 0 0 [], false)) (n := C) (fun j s hj hs => ?_) C 0 l (by omega) ⟨hl, by omega⟩
    · rw [Nat.zero_add] at this; exact this
    · obtain ⟨h1, h2⟩ := hcell i j hi hj
      unfold F_impl_matrixOf_l2
      simp only [id, h1, Option.bind_some]
      cases hc : cellO i j with
      | none => exact ⟨rfl, fun z hz => by cases hz⟩
      | some z =>
        simp only [dR, Bool.not_true, cond_false, Option.bind_some]
        have := grid_len hi hj hR hC
        rw [chk_t (by omega)]
        exact ⟨rfl, fun z' hz => by cases hz; exact ⟨okD_snoc hs.1 (h2 z hc), by simp; omega⟩⟩
  obtain ⟨h1, h2⟩ := im_it (g := F_impl_matrixOf_l1 C cell) (enc := id) (G := fun i z => okD z ∧ z.length = i * C) (st := fun i l => forN (fun j l => (cellO i j).bind fun z => some (l ++ [z])) C 0 l) (R := (TMatrix.mk 0 0 [], false)) (n := R) (fun i s hi hs => by
    obtain ⟨h1, h2⟩ := l2 i s hi hs.1 hs.2
    unfold F_impl_matrixOf_l1
    simp only [id, Int.toNat_natCast]
    rw [chk_t (by omega), h1]
    cases hc : forN (fun j l => (cellO i j).bind fun z => some (l ++ [z])) C 0 s with
    | none => exact ⟨rfl, fun z hz => by cases hz⟩
    | some z => exact ⟨rfl, fun z' hz => by cases hz; obtain ⟨q1, q2⟩ := h2 z hc; exact ⟨q1, by rw [Nat.add_mul]; omega⟩⟩) R 0 [] (by omega) ⟨fun _ h => (by cases h), by simp⟩
  refine ⟨?_, fun l hl => by have := h2 l hl; simpa using this⟩
  unfold F_impl_matrixOf
  rw [impl_dim, impl_dim, dR', dC]
  simp only [Option.bind_some, gb, Bool.not_true, Bool.not_false, cond_true, Bool.or_self, cond_false, Int.toNat_natCast]
  rw [chk_t (by omega), show forX (F_impl_matrixOf_l1 C cell) R 0 [] = _ from h1]
  unfold gridO
  cases forN (fun i l => forN (fun j l => (cellO i j).bind fun z => some (l ++ [z])) C 0 l) R 0 [] <;> rfl
theorem forN_eq {σ : Type} {f g : Nat → σ → Option σ} {G : Nat → σ → Prop} {n : Nat} (h : ∀ k s, k < n → G k s → f k s = g k s ∧ ∀ z, g k s = some z → G (k + 1) z) :
    ∀ (m i : Nat) (s : σ), i + m ≤ n → G i s → forN f m i s = forN g m i s
  | 0, _, _, _, _ => rfl
  | m + 1, i, s, hm, hG => by
    obtain ⟨h1, h2⟩ := h i s (by omega) hG
    simp only [forN, h1]
    cases hs : g i s with
    | none => rfl
    | some z => simp only [Option.bind_some]; exact forN_eq h m (i + 1) z (by omega) (h2 z hs)
def unitL (n : Nat) : List TDyadic := (List.range (n * n)).map fun p => if p / n = p % n then dOne else dZero
theorem unit_spec : ∀ n ∈ [1, 2, 4, 8, 16, 32], F_spec_l3Unit ((n : Nat) : Int) = some (TMatrix.mk (n : Nat) (n : Nat) (unitL n)) := by decide +kernel
theorem dim_mem {n : Nat} (h : dimB (n : Int) = true) : n ∈ [1, 2, 4, 8, 16, 32] := by
  unfold dimB at h
  simp only [List.any_cons, List.any_nil, Bool.or_false, Bool.or_eq_true, beq_iff_eq] at h
  simp only [List.mem_cons, List.not_mem_nil, or_false]
  omega
def val : List Nat → Nat
  | [] => 0
  | d :: t => d + 16 * val t
theorem forN_ind {σ : Type} {f : Nat → σ → Option σ} (I : Nat → σ → Prop) : ∀ (k i : Nat) (s z : σ), forN f k i s = some z → I i s → (∀ j s s', i ≤ j → j < i + k → I j s → f j s = some s' → I (j + 1) s') → I (i + k) z
  | 0, _, _, _, h, hI, _ => by cases h; exact hI
  | k + 1, i, s, z, h, hI, hs => by
    obtain ⟨s', h1, h2⟩ := forN_go h
    have := forN_ind I k (i + 1) s' z h2 (hs i s s' (Nat.le_refl _) (by omega) hI h1) (fun j s s' h1 h2 => hs j s s' (by omega) (by omega))
    rwa [show i + (k + 1) = i + 1 + k by omega]
theorem rc_inj {C i j i' j' : Nat} (hj : j < C) (hj' : j' < C) (h : i * C + j = i' * C + j') : i = i' ∧ j = j' := by
  rcases Nat.lt_trichotomy i i' with h1 | h1 | h1
  · have := Nat.mul_le_mul_right C (show i + 1 ≤ i' from h1)
    rw [Nat.add_mul] at this; omega
  · subst h1; omega
  · have := Nat.mul_le_mul_right C (show i' + 1 ≤ i from h1)
    rw [Nat.add_mul] at this; omega
theorem grid_get {cell : Nat → Nat → Option TDyadic} {R C : Nat} {l : List TDyadic} (h : gridO cell R C = some l) : l.length = R * C ∧ ∀ i j, i < R → j < C → cell i j = some (l.getD (i * C + j) dZero) := by
  have hP := forN_ind (fun i (l : List TDyadic) => l.length = i * C ∧ ∀ i' j', j' < C → i' * C + j' < i * C → cell i' j' = some (l.getD (i' * C + j') dZero)) R 0 [] l h ⟨by simp, fun i' j' _ h => by omega⟩ (fun i s s' _ _ hI hs => by
    have := forN_ind (fun j (l : List TDyadic) => l.length = i * C + j ∧ ∀ i' j', j' < C → i' * C + j' < i * C + j → cell i' j' = some (l.getD (i' * C + j') dZero)) C 0 s s' hs ⟨by omega, fun i' j' h1 h2 => hI.2 i' j' h1 (by omega)⟩ (fun j s s' _ hj hI hs => by
      obtain ⟨z, hz, hs⟩ := Option.bind_eq_some_iff.1 hs
      cases hs
      refine ⟨by simp [hI.1]; omega, fun i' j' h1 h2 => ?_⟩
      by_cases he : i' * C + j' = i * C + j
      · obtain ⟨rfl, rfl⟩ := rc_inj h1 (by omega) he
        rw [hz, List.getD_eq_getElem?_getD, List.getElem?_append_right (by omega), hI.1]
        simp
      · rw [hI.2 i' j' h1 (by omega), List.getD_eq_getElem?_getD, List.getD_eq_getElem?_getD, List.getElem?_append_left (by omega)])
    refine ⟨by rw [this.1, Nat.add_mul]; omega, fun i' j' h1 h2 => this.2 i' j' h1 (by rw [Nat.add_mul] at h2; omega)⟩)
  rw [Nat.zero_add] at hP
  exact ⟨hP.1, fun i j hi hj => hP.2 i j hj (ix_lt hi hj)⟩
theorem grid_ext {R C : Nat} {l l' : List TDyadic} (hl : l.length = R * C) (hl' : l'.length = R * C) (h : ∀ i j, i < R → j < C → l.getD (i * C + j) dZero = l'.getD (i * C + j) dZero) : l = l' := by
  apply List.ext_getElem (by omega)
  intro p h1 h2
  have hC : 0 < C := by
    rcases Nat.eq_zero_or_pos C with h0 | h0
    · rw [h0, Nat.mul_zero] at hl; omega
    · exact h0
  have hp : p / C * C + p % C = p := by rw [Nat.mul_comm]; exact Nat.div_add_mod p C
  have := h (p / C) (p % C) ((Nat.div_lt_iff_lt_mul hC).2 (by omega)) (Nat.mod_lt _ hC)
  rw [hp, List.getD_eq_getElem?_getD, List.getD_eq_getElem?_getD, List.getElem?_eq_getElem h1, List.getElem?_eq_getElem h2] at this
  exact this
/-- A gate that is taken, over n wires. -/
def gOk (n : Int) (g : TGate) : Bool :=
  bif decide (1 ≤ g.Kind) && decide (g.Kind ≤ 8) then decide (0 ≤ g.A) && decide (g.A ≤ n - 1) && (g.B == 0)
  else bif decide (9 ≤ g.Kind) && decide (g.Kind ≤ 11) then decide (0 ≤ g.A) && decide (g.A ≤ n - 1) && (decide (0 ≤ g.B) && decide (g.B ≤ n - 1)) && (g.A != g.B)
  else (g.Kind == 12) && (g.A == 0) && (g.B == 0)
theorem gOk_cases {n : Int} {g : TGate} (h : gOk n g = true) : (1 ≤ g.Kind ∧ g.Kind ≤ 8 ∧ 0 ≤ g.A ∧ g.A ≤ n - 1) ∨ (9 ≤ g.Kind ∧ g.Kind ≤ 11 ∧ 0 ≤ g.A ∧ g.A ≤ n - 1 ∧ 0 ≤ g.B ∧ g.B ≤ n - 1 ∧ g.A ≠ g.B) ∨ g.Kind = 12 := by
  unfold gOk at h
  by_cases h1 : 1 ≤ g.Kind ∧ g.Kind ≤ 8
  · have e : (decide (1 ≤ g.Kind) && decide (g.Kind ≤ 8)) = true := by simp [h1]
    rw [e, cond_true] at h
    simp at h
    exact .inl ⟨h1.1, h1.2, h.1.1, h.1.2⟩
  · have e : (decide (1 ≤ g.Kind) && decide (g.Kind ≤ 8)) = false := by simp; omega
    rw [e, cond_false] at h
    by_cases h2 : 9 ≤ g.Kind ∧ g.Kind ≤ 11
    · have e : (decide (9 ≤ g.Kind) && decide (g.Kind ≤ 11)) = true := by simp [h2]
      rw [e, cond_true] at h
      simp at h
      exact .inr (.inl ⟨h2.1, h2.2, h.1.1.1, h.1.1.2, h.1.2.1, h.1.2.2, h.2⟩)
    · have e : (decide (9 ≤ g.Kind) && decide (g.Kind ≤ 11)) = false := by simp; omega
      rw [e, cond_false] at h
      simp at h
      exact .inr (.inr h.1.1)
def bi (i s : Nat) : Nat := (i >>> s) % 2
def fl (i s : Nat) : Nat := i ^^^ (2 ^ s)
theorem bit_small : ∀ (i : Fin 32) (s : Fin 5), bits .and .i64 (shrK .i64 (i.val : Int) (s.val : Int)) 1 = ((bi i.val s.val : Nat) : Int) := by decide +kernel
theorem fl_small : ∀ (i : Fin 32) (s : Fin 5), bits .xor .i64 (i.val : Int) (shlK .i64 1 (s.val : Int)) = ((fl i.val s.val : Nat) : Int) ∧ fl i.val s.val < 32 := by decide +kernel
theorem an_small : ∀ (r c : Fin 32) (s : Fin 5), (bits .andNot .i64 (bits .xor .i64 (r.val : Int) (c.val : Int)) (shlK .i64 1 (s.val : Int)) != 0) = !(decide (r.val = c.val) || decide (fl r.val s.val = c.val)) := by decide +kernel
theorem cx_small : ∀ (i j : Fin 32) (a b : Fin 5), a.val ≠ b.val → decide (i.val = if bi j.val a.val = 1 then fl j.val b.val else j.val) = decide ((if bi i.val a.val = 1 then fl i.val b.val else i.val) = j.val) := by decide +kernel
theorem sw_small : ∀ (i j : Fin 32) (a b : Fin 5), a.val ≠ b.val → decide (i.val = if bi j.val a.val ≠ bi j.val b.val then fl (fl j.val a.val) b.val else j.val) = decide ((if bi i.val a.val ≠ bi i.val b.val then fl (fl i.val a.val) b.val else i.val) = j.val) := by decide +kernel
def phD (k : Int) : TDyadic := (F_impl_phase k).getD dZero
theorem ph_small : ∀ k : Fin 9, F_spec_l2Power (k.val : Int) = some (phD k.val) ∧ F_impl_phase (k.val : Int) = some (phD k.val) ∧ dOk (phD k.val) = true := by decide +kernel
theorem bi_lt (i s : Nat) : bi i s < 2 := Nat.mod_lt _ (by decide)
def enD (k : Int) (a b : Nat) : TDyadic := (F_impl_entry k a b).getD dZero
theorem en_small : ∀ (k : Fin 9) (a b : Fin 2), 1 ≤ k.val → F_impl_entry (k.val : Int) (a.val : Int) (b.val : Int) = some (enD k.val a.val b.val) ∧
    ((F_spec_l6One (k.val : Int)).bind fun l => getI l (IntKind.i64.wrap (IntKind.i64.wrap (2 * (a.val : Int)) + (b.val : Int)))) = some (enD k.val a.val b.val) ∧ dOk (enD k.val a.val b.val) = true := by decide +kernel
theorem wru {a : Int} (h : 0 ≤ a ∧ a ≤ 9000000000000000000) : IntKind.u64.wrap a = a := by
  simp [IntKind.wrap, IntKind.signed, IntKind.bits]
  omega
section
variable {n a i : Nat}
theorem sp_bit (hn : n ≤ 5) (ha : a < n) (hi : i < 32) : F_spec_l6Bit n i a = some ((bi i (n - 1 - a) : Nat) : Int) := by
  unfold F_spec_l6Bit
  rw [wr (a := (n : Int) - 1) (by omega), wr (a := (n : Int) - 1 - a) (by omega), wru (a := (n : Int) - 1 - a) (by omega), chk_t (by omega), show (n : Int) - 1 - a = ((n - 1 - a : Nat) : Int) by omega]
  exact congrArg some (bit_small ⟨i, hi⟩ ⟨n - 1 - a, by omega⟩)
theorem im_bit (hn : n ≤ 5) (ha : a < n) (hi : i < 32) : F_impl_bitOf n i a = some ((bi i (n - 1 - a) : Nat) : Int) := by
  unfold F_impl_bitOf
  rw [wr (a := (n : Int) - 1) (by omega), wr (a := (n : Int) - 1 - a) (by omega), chk_t (by omega), show (n : Int) - 1 - a = ((n - 1 - a : Nat) : Int) by omega]
  exact congrArg some (bit_small ⟨i, hi⟩ ⟨n - 1 - a, by omega⟩)
end
theorem ibeq (i j : Nat) : ((i : Int) == (j : Int)) = decide (i = j) := by
  rw [Bool.eq_iff_iff, beq_iff_eq, decide_eq_true_eq]; omega
theorem ibne (i j : Nat) : ((i : Int) != (j : Int)) = !decide (i = j) := by
  unfold bne; rw [ibeq]
theorem one_beq (i : Nat) : ((i : Int) == 1) = decide (i = 1) := ibeq i 1
theorem phk {k : Nat} (h : k < 9) : F_spec_l2Power (k : Int) = some (phD k) ∧ F_impl_phase (k : Int) = some (phD k) ∧ dOk (phD k) = true := ph_small ⟨k, h⟩
theorem bsomeT {b : Bool} {x : TDyadic} : (bif b then some x else some (TDyadic.mk (TRing.mk 0 0 0 0) 0)) = some (bif b then x else dZero) := by cases b <;> rfl
theorem pow_le {n : Nat} (hn : 1 ≤ n ∧ n ≤ 5) : 2 ≤ 2 ^ n ∧ 2 ^ n ≤ 32 := by
  have : n = 1 ∨ n = 2 ∨ n = 3 ∨ n = 4 ∨ n = 5 := by omega
  rcases this with rfl | rfl | rfl | rfl | rfl <;> decide
theorem pow_dim {n : Nat} (hn : 1 ≤ n ∧ n ≤ 5) : dimB ((2 ^ n : Nat) : Int) = true := by
  have : n = 1 ∨ n = 2 ∨ n = 3 ∨ n = 4 ∨ n = 5 := by omega
  rcases this with rfl | rfl | rfl | rfl | rfl <;> decide
theorem shl_u {n : Nat} (hn : 1 ≤ n ∧ n ≤ 5) : shlK .i64 1 (IntKind.u64.wrap (n : Int)) = ((2 ^ n : Nat) : Int) := by
  have : n = 1 ∨ n = 2 ∨ n = 3 ∨ n = 4 ∨ n = 5 := by omega
  rcases this with rfl | rfl | rfl | rfl | rfl <;> decide
theorem shl_i {n : Nat} (hn : 1 ≤ n ∧ n ≤ 5) : shlK .i64 1 (n : Int) = ((2 ^ n : Nat) : Int) := by
  have : n = 1 ∨ n = 2 ∨ n = 3 ∨ n = 4 ∨ n = 5 := by omega
  rcases this with rfl | rfl | rfl | rfl | rfl <;> decide
/-- No number, or a power of omega. -/
def pc (o : Option Nat) : TDyadic := match o with | none => dZero | some k => phD ((k % 8 : Nat) : Int)
theorem pc_ok (o : Option Nat) : dOk (pc o) = true := by
  cases o with
  | none => exact dZero_ok
  | some k => exact (phk (show k % 8 < 9 by omega)).2.2
theorem ph_mul_small : ∀ (a b : Fin 8), DM (phD (a.val : Int)) (phD (b.val : Int)) = some (phD (((a.val + b.val) % 8 : Nat) : Int)) ∧ DM (phD (a.val : Int)) dZero = some dZero ∧ DM dZero (phD (a.val : Int)) = some dZero := by decide +kernel
theorem zz_small : DM dZero dZero = some dZero ∧ DA dZero dZero = some dZero := by decide +kernel
theorem ph_add_small : ∀ (a : Fin 8), DA (phD (a.val : Int)) dZero = some (phD (a.val : Int)) := by decide +kernel
theorem pc_mul (a : Nat) (o : Option Nat) : DM (pc (some a)) (pc o) = some (pc (o.map fun x => a + x)) := by
  cases o with
  | none => exact (ph_mul_small ⟨a % 8, by omega⟩ 0).2.1
  | some b =>
    have := (ph_mul_small ⟨a % 8, by omega⟩ ⟨b % 8, by omega⟩).1
    simp only [pc, Option.map_some] at this ⊢
    rw [this, show (a % 8 + b % 8) % 8 = (a + b) % 8 by omega]
theorem pc_mulz (o : Option Nat) : DM dZero (pc o) = some dZero := by
  cases o with
  | none => exact zz_small.1
  | some b => exact (ph_mul_small ⟨b % 8, by omega⟩ 0).2.2
theorem pc_addz (o : Option Nat) : DA (pc o) dZero = some (pc o) := by
  cases o with
  | none => exact zz_small.2
  | some b => exact ph_add_small ⟨b % 8, by omega⟩
def pgrid (R C : Nat) (c : Nat → Nat → Option Nat) : List TDyadic := (List.range (R * C)).map fun p => pc (c (p / C) (p % C))
theorem pgrid_len (R C : Nat) (c : Nat → Nat → Option Nat) : (pgrid R C c).length = R * C := by simp [pgrid]
theorem pgrid_ok (R C : Nat) (c : Nat → Nat → Option Nat) : okD (pgrid R C c) := fun z hz => by
  obtain ⟨p, _, rfl⟩ := List.mem_map.1 hz
  exact pc_ok _
theorem div_ix {C i j : Nat} (hj : j < C) : (i * C + j) / C = i ∧ (i * C + j) % C = j := by
  have h : 0 < C := by omega
  constructor
  · rw [Nat.mul_comm, Nat.mul_add_div h, Nat.div_eq_of_lt hj]; omega
  · rw [Nat.mul_comm, Nat.mul_add_mod, Nat.mod_eq_of_lt hj]
theorem pgrid_get {R C i j : Nat} (c : Nat → Nat → Option Nat) (hi : i < R) (hj : j < C) : (pgrid R C c).getD (i * C + j) dZero = pc (c i j) := by
  obtain ⟨h1, h2⟩ := div_ix (i := i) hj
  rw [List.getD_eq_getElem?_getD, pgrid, List.getElem?_map, List.getElem?_range (ix_lt hi hj)]
  show pc (c ((i * C + j) / C) ((i * C + j) % C)) = _
  rw [h1, h2]
theorem pgrid_eq {R C : Nat} {l : List TDyadic} {c : Nat → Nat → Option Nat} (hl : l.length = R * C) (h : ∀ i j, i < R → j < C → l.getD (i * C + j) dZero = pc (c i j)) : l = pgrid R C c :=
  grid_ext hl (pgrid_len R C c) fun i j hi hj => by rw [h i j hi hj, pgrid_get c hi hj]
theorem pgrid_congr {R C : Nat} {c c' : Nat → Nat → Option Nat} (h : ∀ i j, i < R → j < C → pc (c i j) = pc (c' i j)) : pgrid R C c = pgrid R C c' :=
  pgrid_eq (pgrid_len R C c) fun i j hi hj => by rw [pgrid_get c hi hj, h i j hi hj]
/-- Cells that are all there. -/
theorem grid_is {cell : Nat → Nat → Option TDyadic} {R C : Nat} {c : Nat → Nat → Option Nat} (h : ∀ i j, i < R → j < C → cell i j = some (pc (c i j))) : gridO cell R C = some (pgrid R C c) := by
  obtain ⟨l, h1, _⟩ := forN_inv (f := fun i l => forN (fun j l => (cell i j).bind fun z => some (l ++ [z])) C 0 l) (fun _ _ => True) R 0 [] trivial (fun i s _ hi _ => by
    obtain ⟨l, h1, _⟩ := forN_inv (f := fun j l => (cell i j).bind fun z => some (l ++ [z])) (fun _ _ => True) C 0 s trivial (fun j s _ hj _ => ⟨_, by rw [h i j (by omega) (by omega)]; rfl, trivial⟩)
    exact ⟨l, h1, trivial⟩)
  have h2 : gridO cell R C = some l := h1
  obtain ⟨g1, g2⟩ := grid_get h2
  rw [h2, pgrid_eq g1 fun i j hi hj => Option.some.inj ((g2 i j hi hj).symm.trans (h i j hi hj))]
theorem dot_pick {X Y : Nat → TDyadic} {K s a : Nat} {o : Nat → Option Nat} (hs : s < K) (hX : ∀ k, k < K → X k = pc (if k = s then some a else none)) (hY : ∀ k, k < K → Y k = pc (o k)) : forN (dotS X Y) K 0 dZero = some (pc ((o s).map fun x => a + x)) := by
  obtain ⟨z, h1, h2⟩ := forN_inv (f := dotS X Y) (fun k z => z = if s < k then pc ((o s).map fun x => a + x) else dZero) K 0 dZero (by rw [if_neg (by omega)]) (fun k z _ hk hz => by
    subst hz
    unfold dotS
    rw [hX k (by omega), hY k (by omega)]
    by_cases hks : k = s
    · subst hks
      rw [if_pos rfl, if_neg (by omega), if_pos (by omega), pc_mul]
      simp only [Option.bind_some]
      exact ⟨_, zero_add (pc_ok _), rfl⟩
    · rw [if_neg hks]
      show ∃ s', ((DM dZero (pc (o k))).bind _) = some s' ∧ _
      rw [pc_mulz]
      simp only [Option.bind_some]
      by_cases hlt : s < k
      · rw [if_pos hlt, if_pos (by omega)]
        exact ⟨_, pc_addz _, rfl⟩
      · rw [if_neg hlt, if_neg (by omega)]
        exact ⟨_, zz_small.2, rfl⟩)
  rw [h1, h2, if_pos (by omega)]
/-- The cell of a matrix with one number a row. -/
def row1 (σ κ : Nat → Nat) (i j : Nat) : Option Nat := if j = σ i then some (κ i) else none
theorem pgrid_mul {R K C : Nat} {σ κ : Nat → Nat} {c : Nat → Nat → Option Nat} (hσ : ∀ i, i < R → σ i < K) : mmO (pgrid R K (row1 σ κ)) (pgrid K C c) R K C = some (pgrid R C fun i j => (c (σ i) j).map fun x => κ i + x) := by
  unfold mmO
  exact grid_is fun i j hi hj => by
    unfold mmCell
    exact dot_pick (o := fun k => c k j) (hσ i hi) (fun k hk => pgrid_get _ hi hk) (fun k hk => pgrid_get _ hk hj)
theorem unit_pgrid : ∀ n ∈ [1, 2, 4, 8, 16, 32], unitL n = pgrid n n (row1 id fun _ => 0) := by decide +kernel
def gsg (n : Nat) (g : TGate) (i : Nat) : Nat :=
  if g.Kind = 2 ∨ g.Kind = 3 then fl i (n - 1 - g.A.toNat) else
  if g.Kind = 9 then (if bi i (n - 1 - g.A.toNat) = 1 then fl i (n - 1 - g.B.toNat) else i) else
  if g.Kind = 11 then (if bi i (n - 1 - g.A.toNat) ≠ bi i (n - 1 - g.B.toNat) then fl (fl i (n - 1 - g.A.toNat)) (n - 1 - g.B.toNat) else i) else i
def kap (k b : Nat) : Nat := if k = 3 then (if b = 1 then 2 else 6) else if k = 4 then 4 * b else if k = 5 then 2 * b else if k = 6 then 6 * b else if k = 7 then b else if k = 8 then 7 * b else 0
def gka (n : Nat) (g : TGate) (i : Nat) : Nat :=
  if g.Kind = 10 then (if bi i (n - 1 - g.A.toNat) = 1 ∧ bi i (n - 1 - g.B.toNat) = 1 then 4 else 0) else
  if g.Kind = 12 then 1 else
  if g.Kind ≤ 8 then kap g.Kind.toNat (bi i (n - 1 - g.A.toNat)) else 0
theorem en_val : ∀ (k : Fin 9) (a b : Fin 2), 2 ≤ k.val → enD k.val a.val b.val = pc (if k.val = 2 ∨ k.val = 3 then (if a.val = b.val then none else some (kap k.val a.val)) else if a.val = b.val then some (kap k.val a.val) else none) := by decide +kernel
theorem fl_bit : ∀ (i : Fin 32) (s : Fin 5), bi (fl i.val s.val) s.val ≠ bi i.val s.val ∧ fl i.val s.val ≠ i.val := by decide +kernel
theorem fl_dim : ∀ (n : Fin 6) (i : Fin 32) (s : Fin 5), i.val < 2 ^ n.val → s.val < n.val → fl i.val s.val < 2 ^ n.val := by decide +kernel
theorem gsg_lt {n : Nat} (hn : 1 ≤ n ∧ n ≤ 5) {g : TGate} (hg : gOk n g = true) {i : Nat} (hi : i < 2 ^ n) : gsg n g i < 2 ^ n := by
  have h32 := (pow_le hn).2
  have key : ∀ {i s : Nat}, i < 2 ^ n → s < n → fl i s < 2 ^ n := fun {i s} hi hs => fl_dim ⟨n, by omega⟩ ⟨i, by omega⟩ ⟨s, by omega⟩ hi hs
  unfold gsg
  split
  · exact key hi (by omega)
  · split
    · split
      · exact key hi (by omega)
      · exact hi
    · split
      · split
        · exact key (key hi (by omega)) (by omega)
        · exact hi
      · exact hi
theorem sg_cell {n : Nat} (hn : 1 ≤ n ∧ n ≤ 5) {g : TGate} (hg : gOk n g = true) (hk1 : g.Kind ≠ 1) {i j : Nat} (hi : i < 2 ^ n) (hj : j < 2 ^ n) : F_spec_l6Cell n g i j = some (pc (row1 (gsg n g) (gka n g) i j)) := by
  have h32 := (pow_le hn).2
  have hi' : i < 32 := by omega
  have hj' : j < 32 := by omega
  have p0 : F_spec_l2Power 0 = some (phD 0) := (phk (k := 0) (by decide)).1
  have p1 : F_spec_l2Power 1 = some (phD 1) := (phk (k := 1) (by decide)).1
  have p4 : F_spec_l2Power 4 = some (phD 4) := (phk (k := 4) (by decide)).1
  unfold F_spec_l6Cell row1 gsg gka
  rw [p0]
  simp only [Option.bind_some]
  rcases gOk_cases hg with ⟨k1, k2, a1, a2⟩ | ⟨k1, k2, a1, a2, b1, b2, hab⟩ | hk
  · obtain ⟨k, hk⟩ : ∃ k : Nat, g.Kind = k := ⟨g.Kind.toNat, by omega⟩
    obtain ⟨a, ha⟩ : ∃ a : Nat, g.A = a := ⟨g.A.toNat, by omega⟩
    have e12 : (g.Kind == 12) = false := by rw [hk]; exact decide_eq_false (by omega)
    have e9 : (g.Kind == 9) = false := by rw [hk]; exact decide_eq_false (by omega)
    have e10 : (g.Kind == 10) = false := by rw [hk]; exact decide_eq_false (by omega)
    have e11 : (g.Kind == 11) = false := by rw [hk]; exact decide_eq_false (by omega)
    have hs : (n : Int) - 1 - a = ((n - 1 - a : Nat) : Int) := by omega
    simp only [e12, e9, e10, e11, cond_false]
    rw [ha, wr (a := (n : Int) - 1) (by omega), wr (a := (n : Int) - 1 - a) (by omega), wru (a := (n : Int) - 1 - a) (by omega), chk_t (by omega), hs,
      an_small ⟨i, hi'⟩ ⟨j, hj'⟩ ⟨n - 1 - a, by omega⟩]
    simp only
    rw [sp_bit hn.2 (show a < n by omega) hi', sp_bit hn.2 (show a < n by omega) hj']
    obtain ⟨w1, w2, w3⟩ := en_small ⟨k, by omega⟩ ⟨bi i (n - 1 - a), bi_lt _ _⟩ ⟨bi j (n - 1 - a), bi_lt _ _⟩ (by simp only; omega)
    have w4 := en_val ⟨k, by omega⟩ ⟨bi i (n - 1 - a), bi_lt _ _⟩ ⟨bi j (n - 1 - a), bi_lt _ _⟩ (by simp only; omega)
    simp only at w2 w4
    obtain ⟨l, w5, w6⟩ := Option.bind_eq_some_iff.1 w2
    have hb := fl_bit ⟨i, hi'⟩ ⟨n - 1 - a, by omega⟩
    simp only at hb
    have t1 : g.Kind.toNat = k := by omega
    have t2 : (a : Int).toNat = a := Int.toNat_natCast a
    rw [t1, t2, if_neg (show ¬ g.Kind = 10 by omega), if_neg (show ¬ g.Kind = 12 by omega), if_pos (show g.Kind ≤ 8 by omega), if_neg (show ¬ g.Kind = 9 by omega), if_neg (show ¬ g.Kind = 11 by omega)]
    have val : ∀ z, (z = if i = j ∨ fl i (n - 1 - a) = j then enD k (bi i (n - 1 - a)) (bi j (n - 1 - a)) else dZero) → z = pc (if j = (if g.Kind = 2 ∨ g.Kind = 3 then fl i (n - 1 - a) else i) then some (kap k (bi i (n - 1 - a))) else none) := fun z hz => by
      rw [hz, w4]
      by_cases hx : k = 2 ∨ k = 3
      · have e1 : (if g.Kind = 2 ∨ g.Kind = 3 then fl i (n - 1 - a) else i) = fl i (n - 1 - a) := if_pos (by omega)
        have e2 : (if k = 2 ∨ k = 3 then if bi i (n - 1 - a) = bi j (n - 1 - a) then none else some (kap k (bi i (n - 1 - a))) else if bi i (n - 1 - a) = bi j (n - 1 - a) then some (kap k (bi i (n - 1 - a))) else none) = (if bi i (n - 1 - a) = bi j (n - 1 - a) then none else some (kap k (bi i (n - 1 - a)))) := if_pos hx
        rw [e1, e2]
        by_cases hf : fl i (n - 1 - a) = j
        · have e3 : (if bi i (n - 1 - a) = bi j (n - 1 - a) then none else some (kap k (bi i (n - 1 - a)))) = some (kap k (bi i (n - 1 - a))) := if_neg (by rw [← hf]; exact fun h => hb.1 h.symm)
          rw [e3, if_pos (.inr hf), if_pos hf.symm]
        · have e4 : (if j = fl i (n - 1 - a) then some (kap k (bi i (n - 1 - a))) else none) = none := if_neg (fun h => hf h.symm)
          rw [e4]
          by_cases hij : i = j
          · have e3 : (if bi i (n - 1 - a) = bi j (n - 1 - a) then none else some (kap k (bi i (n - 1 - a)))) = none := if_pos (by rw [hij])
            rw [e3, if_pos (.inl hij)]
          · rw [if_neg (show ¬ (i = j ∨ fl i (n - 1 - a) = j) by intro h; rcases h with h | h <;> contradiction)]; rfl
      · have e1 : (if g.Kind = 2 ∨ g.Kind = 3 then fl i (n - 1 - a) else i) = i := if_neg (by omega)
        have e2 : (if k = 2 ∨ k = 3 then if bi i (n - 1 - a) = bi j (n - 1 - a) then none else some (kap k (bi i (n - 1 - a))) else if bi i (n - 1 - a) = bi j (n - 1 - a) then some (kap k (bi i (n - 1 - a))) else none) = (if bi i (n - 1 - a) = bi j (n - 1 - a) then some (kap k (bi i (n - 1 - a))) else none) := if_neg hx
        rw [e1, e2]
        by_cases hij : i = j
        · have e3 : (if bi i (n - 1 - a) = bi j (n - 1 - a) then some (kap k (bi i (n - 1 - a))) else none) = some (kap k (bi i (n - 1 - a))) := if_pos (by rw [hij])
          rw [e3, if_pos (.inl hij), if_pos hij.symm]
        · have e4 : (if j = i then some (kap k (bi i (n - 1 - a))) else none) = none := if_neg (fun h => hij h.symm)
          rw [e4]
          by_cases hf : fl i (n - 1 - a) = j
          · have e3 : (if bi i (n - 1 - a) = bi j (n - 1 - a) then some (kap k (bi i (n - 1 - a))) else none) = none := if_neg (by rw [← hf]; exact fun h => hb.1 h.symm)
            rw [e3, if_pos (.inr hf)]
          · rw [if_neg (show ¬ (i = j ∨ fl i (n - 1 - a) = j) by intro h; rcases h with h | h <;> contradiction)]; rfl
    by_cases hij : i = j
    · rw [decide_eq_true hij]
      simp only [Bool.true_or, Bool.not_true, cond_false]
      rw [hk, w5]
      simp only [Option.bind_some, w6, orR, Option.some.injEq]
      have hh := val _ (if_pos (.inl hij)).symm
      rw [hk] at hh
      exact hh
    · rw [decide_eq_false hij]
      by_cases hf : fl i (n - 1 - a) = j
      · rw [decide_eq_true hf]
        simp only [Bool.or_true, Bool.not_true, cond_false]
        rw [hk, w5]
        simp only [Option.bind_some, w6, orR, Option.some.injEq]
        have hh := val _ (if_pos (.inr hf)).symm
        rw [hk] at hh
        exact hh
      · rw [decide_eq_false hf]
        simp only [Bool.or_self, Bool.not_false, cond_true, Option.bind_some, orR, Option.some.injEq]
        exact val _ (by rw [if_neg (by intro h; rcases h with h | h <;> contradiction)]; rfl)
  · obtain ⟨a, ha⟩ : ∃ a : Nat, g.A = a := ⟨g.A.toNat, by omega⟩
    obtain ⟨b, hb⟩ : ∃ b : Nat, g.B = b := ⟨g.B.toNat, by omega⟩
    have hs : (n : Int) - 1 - a = ((n - 1 - a : Nat) : Int) := by omega
    have hs' : (n : Int) - 1 - b = ((n - 1 - b : Nat) : Int) := by omega
    have e12 : (g.Kind == 12) = false := decide_eq_false (by omega)
    have c1 := sp_bit hn.2 (show a < n by omega) hj'
    have c2 := sp_bit hn.2 (show b < n by omega) hj'
    have hne : n - 1 - a ≠ n - 1 - b := by omega
    have fin_ : ∀ (t : Nat) (c : Bool) (z : TDyadic), (c = decide (t = j)) → (bif c then z else dZero) = if j = t then z else dZero := fun t c z h => by
      rw [h]
      by_cases e : t = j
      · rw [decide_eq_true e, if_pos e.symm]; rfl
      · rw [decide_eq_false e, if_neg (fun h => e h.symm)]; rfl
    have sel : ∀ (t k : Nat), (if j = t then phD ((k % 8 : Nat) : Int) else dZero) = pc (if j = t then some k else none) := fun t k => by split <;> rfl
    rw [e12, ha, hb, c1, c2, wr (a := (n : Int) - 1) (by omega), wr (a := (n : Int) - 1 - a) (by omega), wru (a := (n : Int) - 1 - a) (by omega), wr (a := (n : Int) - 1 - b) (by omega), wru (a := (n : Int) - 1 - b) (by omega), hs, hs', Int.toNat_natCast, Int.toNat_natCast]
    simp only [cond_false, Option.bind_some, gb]
    rw [if_neg (show ¬ (g.Kind = 2 ∨ g.Kind = 3) by omega), if_neg (show ¬ g.Kind = 12 by omega), if_neg (show ¬ g.Kind ≤ 8 by omega)]
    have : g.Kind = 9 ∨ g.Kind = 10 ∨ g.Kind = 11 := by omega
    rcases this with hk | hk | hk
    · have hc := cx_small ⟨i, hi'⟩ ⟨j, hj'⟩ ⟨n - 1 - a, by omega⟩ ⟨n - 1 - b, by omega⟩ hne
      simp only at hc
      rw [hk, if_pos (show (9 : Int) = 9 from rfl), if_neg (show ¬ (9 : Int) = 10 by decide)]
      have e := (fin_ _ _ (phD ((0 % 8 : Nat) : Int)) hc).trans (sel _ 0)
      simp only [show ((9 : Int) == 9) = true from rfl, cond_true, one_beq]
      by_cases h1 : bi j (n - 1 - a) = 1
      · rw [if_pos h1] at e
        simp only [decide_eq_true h1, cond_true]
        rw [chk_t (by omega), (fl_small ⟨j, hj'⟩ ⟨n - 1 - b, by omega⟩).1]
        simp only [Option.bind_some, orR, ibeq]
        rw [← e]; exact bsomeT
      · rw [if_neg h1] at e
        simp only [decide_eq_false h1, cond_false, Option.bind_some, orR, ibeq]
        rw [← e]; exact bsomeT
    · rw [hk, if_neg (show ¬ (10 : Int) = 9 by decide), if_neg (show ¬ (10 : Int) = 11 by decide), if_pos (show (10 : Int) = 10 from rfl)]
      simp only [show ((10 : Int) == 9) = false from rfl, show ((10 : Int) == 10) = true from rfl, cond_true, cond_false, one_beq]
      by_cases hij : i = j
      · subst hij
        rw [if_pos rfl]
        by_cases h1 : bi i (n - 1 - a) = 1
        · by_cases h2 : bi i (n - 1 - b) = 1
          · simp only [decide_eq_true h1, one_beq, decide_eq_true h2, cond_true, Option.bind_some, Bool.and_self, p4, orR, ibeq, decide_true, if_pos (And.intro h1 h2)]
            rfl
          · simp only [decide_eq_true h1, one_beq, decide_eq_false h2, cond_true, Option.bind_some, Bool.and_false, cond_false, orR, ibeq, decide_true, if_neg (show ¬ (bi i (n - 1 - a) = 1 ∧ bi i (n - 1 - b) = 1) from fun h => h2 h.2)]
            rfl
        · simp only [decide_eq_false h1, cond_false, cond_true, Option.bind_some, Bool.false_and, orR, ibeq, decide_true, if_neg (show ¬ (bi i (n - 1 - a) = 1 ∧ bi i (n - 1 - b) = 1) from fun h => h1 h.1)]
          rfl
      · rw [if_neg (fun h => hij h.symm)]
        have fz : ∀ {A B C D E : Int}, (bif (decide (i = j)) then some (TDyadic.mk (TRing.mk A B C D) E) else some (TDyadic.mk (TRing.mk 0 0 0 0) 0)) = some (pc none) := fun {A B C D E} => by rw [decide_eq_false hij]; rfl
        by_cases h1 : bi j (n - 1 - a) = 1
        · by_cases h2 : bi j (n - 1 - b) = 1
          · simp only [decide_eq_true h1, one_beq, decide_eq_true h2, cond_true, Option.bind_some, Bool.and_self, p4, orR, ibeq]
            exact fz
          · simp only [decide_eq_true h1, one_beq, decide_eq_false h2, cond_true, Option.bind_some, Bool.and_false, cond_false, orR, ibeq]
            exact fz
        · simp only [decide_eq_false h1, cond_false, Option.bind_some, Bool.false_and, orR, ibeq]
          exact fz
    · have hc := sw_small ⟨i, hi'⟩ ⟨j, hj'⟩ ⟨n - 1 - a, by omega⟩ ⟨n - 1 - b, by omega⟩ hne
      simp only at hc
      rw [hk, if_neg (show ¬ (11 : Int) = 9 by decide), if_pos (show (11 : Int) = 11 from rfl), if_neg (show ¬ (11 : Int) = 10 by decide)]
      have e := (fin_ _ _ (phD ((0 % 8 : Nat) : Int)) hc).trans (sel _ 0)
      simp only [show ((11 : Int) == 9) = false from rfl, show ((11 : Int) == 10) = false from rfl, show ((11 : Int) == 11) = true from rfl, cond_true, cond_false, ibne]
      by_cases h1 : bi j (n - 1 - a) = bi j (n - 1 - b)
      · rw [if_neg (show ¬ (bi j (n - 1 - a) ≠ bi j (n - 1 - b)) from fun h => h h1)] at e
        simp only [decide_eq_true h1, Bool.not_true, cond_false, Option.bind_some, orR, ibeq]
        rw [← e]; exact bsomeT
      · rw [if_pos h1] at e
        simp only [decide_eq_false h1, Bool.not_false, cond_true]
        rw [chk_t (by omega), chk_t (by omega), (fl_small ⟨j, hj'⟩ ⟨n - 1 - a, by omega⟩).1]
        have hl := (fl_small ⟨j, hj'⟩ ⟨n - 1 - a, by omega⟩).2
        rw [(fl_small ⟨fl j (n - 1 - a), hl⟩ ⟨n - 1 - b, by omega⟩).1]
        simp only [Option.bind_some, orR, ibeq]
        rw [← e]; exact bsomeT
  · have e12 : (g.Kind == 12) = true := decide_eq_true hk
    simp only [e12, cond_true, p1, Option.bind_some, orR, ibeq]
    rw [if_neg (show ¬ (g.Kind = 2 ∨ g.Kind = 3) by omega), if_neg (show ¬ g.Kind = 9 by omega), if_neg (show ¬ g.Kind = 11 by omega), if_neg (show ¬ g.Kind = 10 by omega), if_pos hk]
    by_cases h2 : i = j
    · simp only [decide_eq_true h2, cond_true]
      rw [if_pos h2.symm]; rfl
    · simp only [decide_eq_false h2, cond_false]
      rw [if_neg (fun h => h2 h.symm)]; rfl
theorem sg_gate {n : Nat} (hn : 1 ≤ n ∧ n ≤ 5) {g : TGate} (hg : gOk n g = true) (hk1 : g.Kind ≠ 1) : F_spec_l6Gate n g = some (TMatrix.mk (2 ^ n : Nat) (2 ^ n : Nat) (pgrid (2 ^ n) (2 ^ n) (row1 (gsg n g) (gka n g)))) := by
  have hp := pow_le hn
  unfold F_spec_l6Gate
  rw [chk_t (by rw [wru (by omega)]; omega), shl_u hn, Int.toNat_natCast]
  have hin : ∀ (i : Nat) (s : List TDyadic), i < 2 ^ n → s.length = i * 2 ^ n → forN (F_spec_l6Gate_l2 n g i) (2 ^ n) 0 s = forN (fun j l' => (some (pc (row1 (gsg n g) (gka n g) i j))).bind fun z => some (l' ++ [z])) (2 ^ n) 0 s := fun i s hi hs =>
    forN_eq (G := fun j (z : List TDyadic) => z.length = i * 2 ^ n + j) (n := 2 ^ n) (fun j z hj hz => by
      unfold F_spec_l6Gate_l2
      rw [sg_cell hn hg hk1 hi hj]
      simp only [Option.bind_some]
      have := grid_len hi hj hp.2 hp.2
      rw [chk_t (by omega)]
      exact ⟨rfl, fun z' h => by cases h; simp [hz]; omega⟩) (2 ^ n) 0 s (by omega) (by omega)
  rw [forN_eq (f := F_spec_l6Gate_l1 n g) (g := fun i l' => forN (fun j l' => (some (pc (row1 (gsg n g) (gka n g) i j))).bind fun z => some (l' ++ [z])) (2 ^ n) 0 l') (G := fun i (z : List TDyadic) => z.length = i * 2 ^ n) (n := 2 ^ n) (fun i z hi hz => by
    unfold F_spec_l6Gate_l1
    rw [shl_u hn, Int.toNat_natCast, chk_t (by omega), hin i z hi hz]
    constructor
    · cases forN (fun j l' => (some (pc (row1 (gsg n g) (gka n g) i j))).bind fun z => some (l' ++ [z])) (2 ^ n) 0 z <;> rfl
    · intro z' h
      obtain ⟨l', h1, h2⟩ := forN_inv (f := fun j l' => (some (pc (row1 (gsg n g) (gka n g) i j))).bind fun z => some (l' ++ [z])) (fun j w => w.length = i * 2 ^ n + j) (2 ^ n) 0 z (by omega) (fun j s _ _ hs => ⟨_, rfl, by simp [hs]; omega⟩)
      rw [h1] at h; cases h
      rw [h2, Nat.add_mul]; omega) (2 ^ n) 0 [] (by omega) (by simp)]
  have hg1 := grid_is (cell := fun i j => some (pc (row1 (gsg n g) (gka n g) i j))) (R := 2 ^ n) (C := 2 ^ n) (c := row1 (gsg n g) (gka n g)) (fun i j _ _ => rfl)
  unfold gridO at hg1
  rw [hg1, chk_t (by omega)]; rfl
/-- The column of row i, and its power, behind some gates. -/
def csg (n : Nat) : List TGate → Nat → Nat
  | [], i => i
  | g :: t, i => gsg n g (csg n t i)
def cka (n : Nat) : List TGate → Nat → Nat
  | [], _ => 0
  | g :: t, i => cka n t i + gka n g (csg n t i)
theorem csg_snoc (n : Nat) (g : TGate) (i : Nat) : ∀ t, csg n (t ++ [g]) i = csg n t (gsg n g i)
  | [] => rfl
  | x :: t => by show gsg n x (csg n (t ++ [g]) i) = gsg n x (csg n t (gsg n g i)); rw [csg_snoc n g i t]
theorem cka_snoc (n : Nat) (g : TGate) (i : Nat) : ∀ t, cka n (t ++ [g]) i = gka n g i + cka n t (gsg n g i)
  | [] => by show 0 + gka n g i = gka n g i + 0; omega
  | x :: t => by
    show cka n (t ++ [g]) i + gka n x (csg n (t ++ [g]) i) = gka n g i + (cka n t (gsg n g i) + gka n x (csg n t (gsg n g i)))
    rw [cka_snoc n g i t, csg_snoc]; omega
/-- The specification's run. -/
theorem sp_pgrid {n E : Nat} (hn : 1 ≤ n ∧ n ≤ 5) (hE : E ≤ 32) {x : TCircuit} (hq : x.Qubits = (n : Int)) (hg : x.Gates.all (gOk n) = true) (hx : x.Gates.length ≤ 1000) (hk : ∀ g ∈ x.Gates, g.Kind ≠ 1) (c : Nat → Nat → Option Nat) :
    F_spec_l2C_run (cB false) x (TMatrix.mk (2 ^ n : Nat) E (pgrid (2 ^ n) E c)) = some (TMatrix.mk (2 ^ n : Nat) E (pgrid (2 ^ n) E fun i j => (c (csg n x.Gates i) j).map fun y => cka n x.Gates i + y), cB false) := by
  have hp := pow_le hn
  unfold F_spec_l2C_run
  rw [chk_t (by omega)]
  obtain ⟨s, h1, h2⟩ := forN_inv (f := F_spec_l2C_run_l1 x) (fun i s => s = (false, ((2 ^ n : Nat) : Int), (E : Int), pgrid (2 ^ n) E fun r j => (c (csg n (x.Gates.take i) r) j).map fun y => cka n (x.Gates.take i) r + y)) x.Gates.length 0 (false, ((2 ^ n : Nat) : Int), (E : Int), pgrid (2 ^ n) E c) (by
    congr 3
    refine pgrid_congr fun i j _ _ => ?_
    show _ = pc ((c i j).map fun y => 0 + y)
    cases c i j with
    | none => rfl
    | some x => simp only [Option.map_some, Nat.zero_add]) (fun i s _ hi hs => by
    subst hs
    have hgi := List.getElem?_eq_getElem (show i < x.Gates.length by omega)
    generalize x.Gates[i] = g at hgi
    have hmem := List.mem_of_getElem? hgi
    have hgo : gOk n g = true := List.all_eq_true.1 hg g hmem
    unfold F_spec_l2C_run_l1
    simp only
    rw [getI_nat, hgi]
    simp only [Option.bind_some, Bool.not_false, cond_true]
    rw [hq, sg_gate hn hgo (hk g hmem)]
    simp only [Option.bind_some]
    obtain ⟨l, b', e1, e2⟩ := sp_times (R := 2 ^ n) (K := 2 ^ n) (C := E) (pgrid_ok (2 ^ n) (2 ^ n) (row1 (gsg n g) (gka n g))) (pgrid_ok (2 ^ n) E _) (pgrid_len _ _ _) (pgrid_len _ _ _) hp.2 hp.2 hE false
    rw [pgrid_mul (fun i hi => gsg_lt hn hgo hi)] at e2
    rcases e2.good with ⟨q1, rfl⟩ | ⟨q1, _⟩
    · cases q1
      rw [show F_spec_l2C_times (Tl2C.mk false) _ _ = _ from e1]
      have hpe : (pgrid (2 ^ n) E fun r j => ((c (csg n (x.Gates.take i) (gsg n g r)) j).map fun y => cka n (x.Gates.take i) (gsg n g r) + y).map fun y => gka n g r + y) = pgrid (2 ^ n) E fun r j => (c (csg n (x.Gates.take (i + 1)) r) j).map fun y => cka n (x.Gates.take (i + 1)) r + y := pgrid_congr fun r j _ _ => by
        rw [List.take_add_one, hgi]
        show _ = pc ((c (csg n (x.Gates.take i ++ [g]) r) j).map fun y => cka n (x.Gates.take i ++ [g]) r + y)
        rw [csg_snoc, cka_snoc]
        cases c (csg n (x.Gates.take i) (gsg n g r)) j with
        | none => rfl
        | some y => simp only [Option.map_some, Nat.add_assoc]
      rw [← hpe]
      exact ⟨_, rfl, rfl⟩
    · cases q1)
  rw [show (cB false).bad = false from rfl, h1, h2, Nat.zero_add, List.take_length]
  rfl

theorem wn_succ {k : Int} (h0 : 0 ≤ k) (h : k + 1 ≤ 9223372036854775807) : IntKind.i64.wrap (k + 1) = k + 1 := wrap_i64 ⟨by omega, by omega⟩
theorem to_Pauli (a : TPauli) : F_laws_toPauli a = some a := by
  unfold F_laws_toPauli; simp
theorem eqr_DyadicS (a : List TDyadic) (h : a.length ≤ 1099511627776) : F_laws_eqDyadicS a a = some true := by
  unfold F_laws_eqDyadicS
  simp only [bne_self_eq_false, cond_false]
  rw [chk_t (by omega), forX_pass (fun i hi => ?_)]
  · simp [orR]
  · unfold F_laws_eqDyadicS_l1 F_laws_eqDyadic F_laws_eqRing
    simp [getI_nat, List.getElem?_eq_getElem hi]
theorem mk_DyadicS (a : List TDyadic) (k : Int) (h0 : 0 ≤ k) (h : k ≤ 1152921504606846976) (ha : a.length ≤ 1099511627776) : ∃ m, F_laws_markDyadicS a k = some (k + a.length * 5, m) ∧ F_laws_heldDyadicS m k = some (k + a.length * 5) := by
  obtain ⟨m, h1, hl, h2⟩ := mark_held (mk := fun (x : TDyadic) k => TDyadic.mk (TRing.mk k (IntKind.i64.wrap (k + 1)) (IntKind.i64.wrap ((IntKind.i64.wrap (k + 1)) + 1)) (IntKind.i64.wrap ((IntKind.i64.wrap ((IntKind.i64.wrap (k + 1)) + 1)) + 1))) (IntKind.i64.wrap ((IntKind.i64.wrap ((IntKind.i64.wrap ((IntKind.i64.wrap (k + 1)) + 1)) + 1)) + 1))) (nx := fun k => (IntKind.i64.wrap ((IntKind.i64.wrap ((IntKind.i64.wrap ((IntKind.i64.wrap ((IntKind.i64.wrap (k + 1)) + 1)) + 1)) + 1)) + 1)))
    (f := F_laws_markDyadicS_l1) (g := F_laws_heldDyadicS_l1)
    (fun i m k x hx => by unfold F_laws_markDyadicS_l1; simp [getI_nat, hx]) (fun m i k x hx => by unfold F_laws_heldDyadicS_l1; simp [getI_nat, hx]) a k
  have hn := iter_add (c := 5) (nx := fun k => (IntKind.i64.wrap ((IntKind.i64.wrap ((IntKind.i64.wrap ((IntKind.i64.wrap ((IntKind.i64.wrap (k + 1)) + 1)) + 1)) + 1)) + 1))) (by omega) (fun k hk hk' => by simp (disch := omega) only [wn_succ] <;> omega) a.length k h0 (by omega)
  refine ⟨m, ?_, ?_⟩
  · unfold F_laws_markDyadicS; rw [chk_t (by omega), h1, hn]; rfl
  · unfold F_laws_heldDyadicS; rw [chk_t (by omega), h2, hn]; rfl
theorem eqr_Matrix (a : TMatrix) (h0 : a.Cells.length ≤ 1099511627776) : F_laws_eqMatrix a a = some true := by
  unfold F_laws_eqMatrix; simp [eqr_DyadicS a.Cells h0]
theorem mk_Matrix (a : TMatrix) (k : Int) (h0' : 0 ≤ k) (h : k ≤ 1125899906842624) (h0 : a.Cells.length ≤ 1099511627776) : ∃ m0, F_laws_markMatrix a k = some (k + a.Cells.length * 5, m0) ∧ F_laws_heldMatrix (TMatrix.mk a.Rows a.Cols m0) k = some (k + a.Cells.length * 5) := by
  obtain ⟨m0, e0, g0⟩ := mk_DyadicS a.Cells (k) (by omega) (by omega) h0
  refine ⟨m0, ?_, ?_⟩
  · unfold F_laws_markMatrix; simp only [e0, Option.bind_some]
  · unfold F_laws_heldMatrix; simp only
    rw [g0]; simp only [Option.bind_some]
    rw [show decide (k + (a.Cells.length : Int) * 5 < 0) = false from decide_eq_false (by omega)]; simp only [cond_false]
/-- The law, where the two answer alike. -/
theorem law_of (a0 : Int) (a1 : TPauli) (ok0 : I64 a0) (ok1 : ok_Pauli a1) (hb : ∃ (r0 : TMatrix) (r1 : Bool), F_spec_PauliMatrix a0 a1 = some (r0, r1) ∧ F_impl_PauliMatrix a0 a1 = some (r0, r1) ∧ r0.Cells.length ≤ 1099511627776) : F_laws_FnExactPauliMatrix a0 a1 = some true := by
  unfold F_laws_FnExactPauliMatrix
  obtain ⟨r0, r1, hs, hi, m0⟩ := hb 
  obtain ⟨kr0, mr0_0, fr0, gr0, hr0⟩ : ∃ k' mr0_0, F_laws_markMatrix r0 (1) = some (k', mr0_0) ∧ F_laws_heldMatrix (TMatrix.mk r0.Rows r0.Cols mr0_0) (1) = some k' ∧ (0 ≤ k' ∧ k' ≤ 1 + 35184372088832) := by
    obtain ⟨mr0_0, e, g⟩ := mk_Matrix r0 (1) (by omega) (by omega) m0
    exact ⟨_, mr0_0, e, g, by omega, by omega⟩
  simp only [cond_false, Option.bind_some, to_Pauli, hs, hi, eqr_Matrix r0 m0, fr0, gr0, decide_eq_false (show ¬ kr0 < 0 by omega), cond_true, gb, Bool.not_true, Bool.not_false, Bool.or_false, Bool.false_or, Bool.or_self, beq_self_eq_true, bne_self_eq_false]
theorem shl_small' {n : Int} (h : 1 ≤ n ∧ n ≤ 5) : (0 : Int) ≤ IntKind.u64.wrap n ∧ shlK .i64 1 (IntKind.u64.wrap n) = ((2 ^ n.toNat : Nat) : Int) ∧ shlK .i64 1 n = ((2 ^ n.toNat : Nat) : Int) ∧ IntKind.i64.wrap (((2 ^ n.toNat : Nat) : Int) - 1) = ((2 ^ n.toNat : Nat) : Int) - 1 := by
  have : n = 1 ∨ n = 2 ∨ n = 3 ∨ n = 4 ∨ n = 5 := by omega
  rcases this with rfl | rfl | rfl | rfl | rfl <;> decide
theorem valid_both (n : Int) (p : TPauli) : ∃ b, F_spec_l7Valid n p = some b ∧ F_impl_IsValidPauli n p = some b ∧ (b = true → (1 ≤ n ∧ n ≤ 5) ∧ (0 ≤ p.Phase ∧ p.Phase ≤ 3) ∧ (0 ≤ p.X ∧ p.X < ((2 ^ n.toNat : Nat) : Int)) ∧ 0 ≤ p.Z ∧ p.Z < ((2 ^ n.toNat : Nat) : Int)) := by
  unfold F_spec_l7Valid F_impl_IsValidPauli F_spec_l1In F_impl_within
  by_cases hn : 1 ≤ n ∧ n ≤ 5
  · obtain ⟨s1, s2, s3, s4⟩ := shl_small' hn
    have hn0 : 0 ≤ n := by omega
    rw [decide_eq_true hn.1, decide_eq_true hn.2, s2, s3, s4]
    refine ⟨(decide (0 ≤ p.Phase) && decide (p.Phase ≤ 3)) && (decide (0 ≤ p.X) && decide (p.X ≤ ((2 ^ n.toNat : Nat) : Int) - 1)) && (decide (0 ≤ p.Z) && decide (p.Z ≤ ((2 ^ n.toNat : Nat) : Int) - 1)), ?_, ?_, fun h => ?_⟩
    · cases (decide (0 ≤ p.Phase) && decide (p.Phase ≤ 3)) <;> cases (decide (0 ≤ p.X) && decide (p.X ≤ ((2 ^ n.toNat : Nat) : Int) - 1)) <;> simp [gb, chk, s1]
    · cases (decide (0 ≤ p.Phase) && decide (p.Phase ≤ 3)) <;> cases (decide (0 ≤ p.X) && decide (p.X ≤ ((2 ^ n.toNat : Nat) : Int) - 1)) <;> simp [gb, chk, hn0]
    · simp only [Bool.and_eq_true, decide_eq_true_eq] at h
      exact ⟨hn, by omega, by omega, by omega⟩
  · have e : (decide (1 ≤ n) && decide (n ≤ 5)) = false := by
      simp only [Bool.and_eq_false_iff, decide_eq_false_iff_not]; omega
    rw [e]
    exact ⟨false, by simp [gb, chk], by simp [gb, chk], fun h => by cases h⟩
theorem g_x (n q i : Nat) : gsg n (TGate.mk 2 (q : Int) 0) i = fl i (n - 1 - q) ∧ gka n (TGate.mk 2 (q : Int) 0) i = 0 := by simp [gsg, gka, kap]
theorem g_z (n q i : Nat) : gsg n (TGate.mk 4 (q : Int) 0) i = i ∧ gka n (TGate.mk 4 (q : Int) 0) i = 4 * bi i (n - 1 - q) := by simp [gsg, gka, kap]
theorem g_y (n q i : Nat) : gsg n (TGate.mk 3 (q : Int) 0) i = fl i (n - 1 - q) ∧ gka n (TGate.mk 3 (q : Int) 0) i = if bi i (n - 1 - q) = 1 then 2 else 6 := by simp [gsg, gka, kap]
/-- The kind of a letter. -/
def lk (x z q : Nat) : Nat := [0, 2, 4, 3].getD (bi x q + 2 * bi z q) 0
theorem bit_at (x q : Nat) (hx : x < 32) (hq : q < 5) : bits .and .i64 (shrK .i64 (x : Int) (q : Int)) 1 = ((bi x q : Nat) : Int) := bit_small ⟨x, hx⟩ ⟨q, hq⟩
theorem lk_small : ∀ a b : Fin 2, getI ([0, 2, 4, 3] : List Int) (IntKind.i64.wrap ((a.val : Int) + IntKind.i64.wrap (2 * (b.val : Int)))) = some ((([0, 2, 4, 3] : List Nat).getD (a.val + 2 * b.val) 0 : Nat) : Int) ∧
    (getI ([73, 88, 90, 89] : List UInt8) (IntKind.i64.wrap ((a.val : Int) + IntKind.i64.wrap (2 * (b.val : Int))))) = some (([73, 88, 90, 89] : List UInt8).getD (a.val + 2 * b.val) 0) := by decide +kernel
theorem fac_small : ∀ a b i j : Fin 2, F_impl_factor (((([73, 88, 90, 89] : List UInt8).getD (a.val + 2 * b.val) 0).toNat : Nat) : Int) (i.val : Int) (j.val : Int) = some (pc (if j.val = (i.val + a.val) % 2 then some (kap (([0, 2, 4, 3] : List Nat).getD (a.val + 2 * b.val) 0) i.val) else none)) := by decide +kernel
theorem fl_bits : ∀ (i : Fin 32) (s t : Fin 5), bi (fl i.val s.val) t.val = if t.val = s.val then (bi i.val t.val + 1) % 2 else bi i.val t.val := by decide +kernel
theorem bi_tb (i s : Nat) : bi i s = if i.testBit s then 1 else 0 := by
  unfold bi
  rw [Nat.testBit_eq_decide_div_mod_eq, Nat.shiftRight_eq_div_pow]
  have := Nat.mod_lt (i / 2 ^ s) (show 0 < 2 by decide)
  by_cases h : i / 2 ^ s % 2 = 1
  · simp [h]
  · simp [h]; omega
theorem bits_ext {n a b : Nat} (ha : a < 2 ^ n) (hb : b < 2 ^ n) (h : ∀ q, q < n → bi a (n - 1 - q) = bi b (n - 1 - q)) : a = b := by
  refine Nat.eq_of_testBit_eq fun s => ?_
  rcases Nat.lt_or_ge s n with hs | hs
  · have := h (n - 1 - s) (by omega)
    rw [show n - 1 - (n - 1 - s) = s by omega, bi_tb, bi_tb] at this
    cases h1 : a.testBit s <;> cases h2 : b.testBit s <;> simp [h1, h2] at this ⊢
  · rw [Nat.testBit_lt_two_pow (Nat.lt_of_lt_of_le ha (Nat.pow_le_pow_right (by decide) hs)), Nat.testBit_lt_two_pow (Nat.lt_of_lt_of_le hb (Nat.pow_le_pow_right (by decide) hs))]
/-- The gates of an operator, up to a wire. -/
def pgs (ph x z : Nat) : Nat → List TGate
  | 0 => List.replicate (2 * ph) (TGate.mk 12 0 0)
  | q + 1 => pgs ph x z q ++ (if 0 < lk x z q then [TGate.mk (lk x z q : Nat) (q : Int) 0] else [])
/-- The power that comes to a row. -/
def kpw (n ph x z i : Nat) : Nat → Nat
  | 0 => 2 * ph
  | q + 1 => kpw n ph x z i q + kap (lk x z q) (bi i (n - 1 - q))
theorem lk_cases (x z q : Nat) : (lk x z q = 0 ∧ bi x q = 0) ∨ (lk x z q = 2 ∧ bi x q = 1) ∨ (lk x z q = 4 ∧ bi x q = 0) ∨ (lk x z q = 3 ∧ bi x q = 1) := by
  have h1 := bi_lt x q
  have h2 := bi_lt z q
  unfold lk
  have e1 : bi x q = 0 ∨ bi x q = 1 := by omega
  have e2 : bi z q = 0 ∨ bi z q = 1 := by omega
  rcases e1 with e1 | e1 <;> rcases e2 with e2 | e2 <;> rw [e1, e2] <;> simp
theorem pgs_ok {n ph x z : Nat} (hn : 1 ≤ n ∧ n ≤ 5) (hph : ph ≤ 3) : ∀ q, q ≤ n → (pgs ph x z q).all (gOk n) = true ∧ (∀ g ∈ pgs ph x z q, g.Kind ≠ 1) ∧ (pgs ph x z q).length ≤ 6 + q
  | 0, _ => ⟨by
      rw [List.all_eq_true]
      intro g hg
      rw [List.eq_of_mem_replicate hg]
      unfold gOk; simp, fun g hg => by rw [List.eq_of_mem_replicate hg]; decide, by simp [pgs]; omega⟩
  | q + 1, hq => by
    obtain ⟨h1, h2, h3⟩ := pgs_ok (x := x) (z := z) hn hph q (by omega)
    unfold pgs
    split
    · rename_i hk
      have hg : gOk n (TGate.mk (lk x z q : Nat) (q : Int) 0) = true := by
        rcases lk_cases x z q with ⟨e, _⟩ | ⟨e, _⟩ | ⟨e, _⟩ | ⟨e, _⟩ <;> rw [e] at hk ⊢ <;> first | omega | (unfold gOk; simp; omega)
      refine ⟨by rw [List.all_append, h1]; simp [hg], fun g hg => ?_, by simp; omega⟩
      rcases List.mem_append.1 hg with hg | hg
      · exact h2 g hg
      · simp only [List.mem_singleton] at hg
        subst hg
        rcases lk_cases x z q with ⟨e, _⟩ | ⟨e, _⟩ | ⟨e, _⟩ | ⟨e, _⟩ <;> rw [e] <;> simp
    · rw [List.append_nil]; exact ⟨h1, h2, by omega⟩
theorem w_run (n m : Nat) (i : Nat) : csg n (List.replicate m (TGate.mk 12 0 0)) i = i ∧ cka n (List.replicate m (TGate.mk 12 0 0)) i = m := by
  induction m with
  | zero => exact ⟨rfl, rfl⟩
  | succ m ih =>
    rw [List.replicate_succ]
    constructor
    · show gsg n (TGate.mk 12 0 0) (csg n _ i) = i
      rw [ih.1]; rfl
    · show cka n _ i + gka n (TGate.mk 12 0 0) (csg n _ i) = m + 1
      rw [ih.2]; rfl
theorem pgs_val {n ph x z : Nat} (hn : 1 ≤ n ∧ n ≤ 5) : ∀ (q i : Nat), q ≤ n → i < 2 ^ n → csg n (pgs ph x z q) i < 2 ^ n ∧ (∀ t, t < n → bi (csg n (pgs ph x z q) i) (n - 1 - t) = if t < q then (bi i (n - 1 - t) + bi x t) % 2 else bi i (n - 1 - t)) ∧ cka n (pgs ph x z q) i = kpw n ph x z i q
  | 0, i, _, hi => by
    obtain ⟨h1, h2⟩ := w_run n (2 * ph) i
    unfold pgs kpw
    rw [h1, h2]
    exact ⟨hi, fun t _ => by rw [if_neg (by omega)], rfl⟩
  | q + 1, i, hq, hi => by
    have h32 := (pow_le hn).2
    have hbl := bi_lt i (n - 1 - q)
    have key : ∀ (i' d : Nat), i' < 2 ^ n → (∀ t, t < n → bi i' (n - 1 - t) = if t = q then (bi i (n - 1 - t) + bi x t) % 2 else bi i (n - 1 - t)) → csg n (pgs ph x z (q + 1)) i = csg n (pgs ph x z q) i' → cka n (pgs ph x z (q + 1)) i = d + cka n (pgs ph x z q) i' → d = kap (lk x z q) (bi i (n - 1 - q)) →
        csg n (pgs ph x z (q + 1)) i < 2 ^ n ∧ (∀ t, t < n → bi (csg n (pgs ph x z (q + 1)) i) (n - 1 - t) = if t < q + 1 then (bi i (n - 1 - t) + bi x t) % 2 else bi i (n - 1 - t)) ∧ cka n (pgs ph x z (q + 1)) i = kpw n ph x z i (q + 1) := fun i' d hi' hb e1 e2 e3 => by
      obtain ⟨h1, h2, h3⟩ := pgs_val (ph := ph) (x := x) (z := z) hn q i' (by omega) hi'
      rw [e1, e2]
      refine ⟨h1, fun t ht => ?_, ?_⟩
      · rw [h2 t ht, hb t ht]
        by_cases h : t < q
        · rw [if_pos h, if_neg (by omega), if_pos (by omega)]
        · rw [if_neg h]
          by_cases h' : t = q
          · rw [if_pos h', if_pos (by omega)]
          · rw [if_neg h', if_neg (by omega)]
      · rw [h3, e3]
        show _ = kpw n ph x z i q + _
        have : ∀ m, m ≤ q → kpw n ph x z i' m = kpw n ph x z i m := fun m => by
          induction m with
          | zero => intro _; rfl
          | succ m ih =>
            intro hm
            show kpw n ph x z i' m + _ = kpw n ph x z i m + _
            rw [ih (by omega), hb m (by omega), if_neg (by omega)]
        rw [this q (Nat.le_refl _)]; omega
    have hflip : ∀ t, t < n → bi (fl i (n - 1 - q)) (n - 1 - t) = if t = q then (bi i (n - 1 - t) + 1) % 2 else bi i (n - 1 - t) := fun t ht => by
      have := fl_bits ⟨i, by omega⟩ ⟨n - 1 - q, by omega⟩ ⟨n - 1 - t, by omega⟩
      simp only at this
      rw [this]
      by_cases h : t = q
      · rw [if_pos h, if_pos (by rw [h])]
      · rw [if_neg h, if_neg (by omega)]
    have hfl : fl i (n - 1 - q) < 2 ^ n := fl_dim ⟨n, by omega⟩ ⟨i, by omega⟩ ⟨n - 1 - q, by omega⟩ hi (by simp only; omega)
    rcases lk_cases x z q with ⟨e, hx⟩ | ⟨e, hx⟩ | ⟨e, hx⟩ | ⟨e, hx⟩
    · have hp : pgs ph x z (q + 1) = pgs ph x z q := by
        show pgs ph x z q ++ _ = _
        rw [e, if_neg (by decide), List.append_nil]
      refine key i 0 hi (fun t ht => ?_) (by rw [hp]) (by rw [hp]; omega) (by rw [e]; rfl)
      by_cases h : t = q
      · rw [if_pos h, h, hx]; omega
      · rw [if_neg h]
    · have hp : pgs ph x z (q + 1) = pgs ph x z q ++ [TGate.mk 2 (q : Int) 0] := by
        show pgs ph x z q ++ _ = _
        rw [e, if_pos (by decide)]; rfl
      refine key (fl i (n - 1 - q)) 0 hfl (fun t ht => ?_) (by rw [hp, csg_snoc, (g_x n q i).1]) (by rw [hp, cka_snoc, (g_x n q i).1, (g_x n q i).2]) (by rw [e]; rfl)
      rw [hflip t ht]
      by_cases h : t = q
      · rw [if_pos h, if_pos h, h, hx]
      · rw [if_neg h, if_neg h]
    · have hp : pgs ph x z (q + 1) = pgs ph x z q ++ [TGate.mk 4 (q : Int) 0] := by
        show pgs ph x z q ++ _ = _
        rw [e, if_pos (by decide)]; rfl
      refine key i (4 * bi i (n - 1 - q)) hi (fun t ht => ?_) (by rw [hp, csg_snoc, (g_z n q i).1]) (by rw [hp, cka_snoc, (g_z n q i).1, (g_z n q i).2]) (by rw [e]; rfl)
      by_cases h : t = q
      · rw [if_pos h, h, hx]; omega
      · rw [if_neg h]
    · have hp : pgs ph x z (q + 1) = pgs ph x z q ++ [TGate.mk 3 (q : Int) 0] := by
        show pgs ph x z q ++ _ = _
        rw [e, if_pos (by decide)]; rfl
      refine key (fl i (n - 1 - q)) (if bi i (n - 1 - q) = 1 then 2 else 6) hfl (fun t ht => ?_) (by rw [hp, csg_snoc, (g_y n q i).1]) (by rw [hp, cka_snoc, (g_y n q i).1, (g_y n q i).2]) (by rw [e]; rfl)
      rw [hflip t ht]
      by_cases h : t = q
      · rw [if_pos h, if_pos h, h, hx]
      · rw [if_neg h, if_neg h]
theorem gates_eq {n ph x z : Nat} (hn : 1 ≤ n ∧ n ≤ 5) (hph : ph ≤ 3) (hx : x < 32) (hz : z < 32) : F_spec_l7Op (n : Int) (TPauli.mk ph x z) = F_spec_l6Op (TCircuit.mk (n : Int) (pgs ph x z n)) := by
  unfold F_spec_l7Op
  simp only
  rw [wr (a := 2 * (ph : Int)) (by omega), show (2 * (ph : Int)).toNat = 2 * ph by omega, chk_t (by omega)]
  obtain ⟨G, h1, h2⟩ := forN_inv (f := F_spec_l7Op_l1) (fun i G => G = List.replicate i (TGate.mk 12 0 0)) (2 * ph) 0 [] rfl (fun i G _ hi hG => by
    subst hG
    refine ⟨_, ?_, rfl⟩
    unfold F_spec_l7Op_l1
    rw [chk_t (by simp; omega), List.replicate_succ']
    )
  rw [h1, h2, Nat.zero_add]
  simp only [Option.bind_some, Int.toNat_natCast]
  rw [chk_t (by omega)]
  obtain ⟨G, h3, h4⟩ := forN_inv (f := F_spec_l7Op_l2 (TPauli.mk ph x z)) (fun q G => G = pgs ph x z q ∧ q ≤ n) n 0 (List.replicate (2 * ph) (TGate.mk 12 0 0)) ⟨rfl, by omega⟩ (fun q G _ hq ⟨hG, _⟩ => by
    subst hG
    have hl := (pgs_ok (x := x) (z := z) hn hph q (by omega)).2.2
    refine ⟨_, ?_, rfl, by omega⟩
    unfold F_spec_l7Op_l2 F_spec_l7Letter
    simp only
    have hu : IntKind.u64.wrap (q : Int) = (q : Int) := wru (by omega)
    rw [hu, chk_t (by omega), chk_t (by omega), bit_at x q hx (by omega), bit_at z q hz (by omega)]
    simp only [Option.bind_some]
    rw [(lk_small ⟨bi x q, bi_lt _ _⟩ ⟨bi z q, bi_lt _ _⟩).1]
    simp only [Option.bind_some]
    show (bif decide ((0 : Int) < ((lk x z q : Nat) : Int)) then _ else _ : Option (List TGate)).bind _ = some (pgs ph x z q ++ _)
    by_cases hk : 0 < lk x z q
    · rw [decide_eq_true (show (0 : Int) < ((lk x z q : Nat) : Int) by omega), if_pos hk]
      simp only [cond_true]
      rw [chk_t (by omega)]; rfl
    · rw [decide_eq_false (show ¬ (0 : Int) < ((lk x z q : Nat) : Int) by omega), if_neg hk, List.append_nil]; rfl)
  rw [h3, h4.1, Nat.zero_add]
  simp only [Option.bind_some]
  cases F_spec_l6Op (TCircuit.mk (n : Int) (pgs ph x z n)) <;> rfl
theorem spec_pm {n ph x z : Nat} (hn : 1 ≤ n ∧ n ≤ 5) (hph : ph ≤ 3) : F_spec_l6Op (TCircuit.mk (n : Int) (pgs ph x z n)) = some (TMatrix.mk (2 ^ n : Nat) (2 ^ n : Nat) (pgrid (2 ^ n) (2 ^ n) fun i j => (row1 id (fun _ => 0) (csg n (pgs ph x z n) i) j).map fun y => cka n (pgs ph x z n) i + y)) := by
  have hp := pow_le hn
  have hd := pow_dim hn
  obtain ⟨g1, g2, g3⟩ := pgs_ok (x := x) (z := z) hn hph n (Nat.le_refl _)
  unfold F_spec_l6Op
  simp only
  rw [chk_t (by rw [wru (by omega)]; omega), shl_u hn, unit_spec _ (dim_mem hd)]
  simp only [Option.bind_some]
  rw [unit_pgrid _ (dim_mem hd)]
  rw [show F_spec_l2C_run (Tl2C.mk false) (TCircuit.mk (n : Int) (pgs ph x z n)) _ = _ from sp_pgrid (x := TCircuit.mk (n : Int) (pgs ph x z n)) hn hp.2 rfl g1 (by simp only; omega) g2 (row1 id fun _ => 0)]
  rfl
theorem pm_mul (o o' : Option Nat) : DM (pc o) (pc o') = some (pc (o.bind fun a => o'.map fun b => a + b)) := by
  cases o with
  | none => exact pc_mulz o'
  | some a => exact pc_mul a o'
theorem impl_pm {n ph x z : Nat} (hn : 1 ≤ n ∧ n ≤ 5) (hph : ph ≤ 3) (hx : x < 32) (hz : z < 32) {i j : Nat} (hi : i < 2 ^ n) (hj : j < 2 ^ n) :
    F_impl_PauliMatrix_1 i j (TPauli.mk ph x z) n = some (pc (if (∀ t, t < n → bi j (n - 1 - t) = (bi i (n - 1 - t) + bi x t) % 2) then some (kpw n ph x z i n) else none), true) := by
  have h32 := (pow_le hn).2
  unfold F_impl_PauliMatrix_1
  simp only
  rw [wr (a := 2 * (ph : Int)) (by omega), show 2 * (ph : Int) = ((2 * ph : Nat) : Int) by omega, (phk (k := 2 * ph) (by omega)).2.1]
  simp only [Option.bind_some, Int.toNat_natCast]
  rw [chk_t (by omega)]
  have h0 : phD ((2 * ph : Nat) : Int) = pc (some (2 * ph)) := by
    show _ = phD (((2 * ph) % 8 : Nat) : Int)
    rw [Nat.mod_eq_of_lt (by omega)]
  rw [h0]
  obtain ⟨s, h1, h2⟩ := forN_inv (f := F_impl_PauliMatrix_1_l1 (TPauli.mk ph x z) n i j) (fun q s => s = iT (pc (if (∀ t, t < q → bi j (n - 1 - t) = (bi i (n - 1 - t) + bi x t) % 2) then some (kpw n ph x z i q) else none))) n 0 (iT (pc (some (2 * ph)))) (by rw [if_pos (fun t ht => absurd ht (Nat.not_lt_zero _))]; rfl) (fun q s _ hq hs => by
    subst hs
    refine ⟨_, ?_, rfl⟩
    unfold F_impl_PauliMatrix_1_l1 iT F_impl_letterOf
    simp only
    rw [chk_t (by omega), chk_t (by omega), bit_at x q hx (by omega), bit_at z q hz (by omega)]
    rw [(lk_small ⟨bi x q, bi_lt _ _⟩ ⟨bi z q, bi_lt _ _⟩).2]
    simp only [Option.bind_some]
    rw [im_bit hn.2 (show q < n by omega) (show i < 32 by omega), im_bit hn.2 (show q < n by omega) (show j < 32 by omega)]
    simp only [Option.bind_some]
    rw [fac_small ⟨bi x q, bi_lt _ _⟩ ⟨bi z q, bi_lt _ _⟩ ⟨bi i (n - 1 - q), bi_lt _ _⟩ ⟨bi j (n - 1 - q), bi_lt _ _⟩]
    simp only [Option.bind_some]
    generalize hA : (if (∀ t, t < q → bi j (n - 1 - t) = (bi i (n - 1 - t) + bi x t) % 2) then some (kpw n ph x z i q) else none) = A
    generalize hB : (if bi j (n - 1 - q) = (bi i (n - 1 - q) + bi x q) % 2 then some (kap (([0, 2, 4, 3] : List Nat).getD (bi x q + 2 * bi z q) 0) (bi i (n - 1 - q))) else none) = B
    rw [show TDyadic.mk (TRing.mk (pc A).Num.A (pc A).Num.B (pc A).Num.C (pc A).Num.D) (pc A).Exp = pc A from rfl, imM (pc_ok A) (pc_ok B), pm_mul]
    simp only [Option.bind_some, dR]
    have : (A.bind fun a => B.map fun b => a + b) = (if (∀ t, t < q + 1 → bi j (n - 1 - t) = (bi i (n - 1 - t) + bi x t) % 2) then some (kpw n ph x z i (q + 1)) else none) := by
      rw [← hA, ← hB]
      by_cases hc : ∀ t, t < q → bi j (n - 1 - t) = (bi i (n - 1 - t) + bi x t) % 2
      · rw [if_pos hc]
        by_cases hd : bi j (n - 1 - q) = (bi i (n - 1 - q) + bi x q) % 2
        · rw [if_pos hd, if_pos (fun t ht => by
            rcases Nat.lt_succ_iff_lt_or_eq.1 ht with h | rfl
            · exact hc t h
            · exact hd)]
          rfl
        · rw [if_neg hd, if_neg (fun h => hd (h q (by omega)))]; rfl
      · have hc2 : ¬ ∀ t, t < q + 1 → bi j (n - 1 - t) = (bi i (n - 1 - t) + bi x t) % 2 := fun h => hc (fun t ht => h t (by omega))
        rw [if_neg hc, if_neg hc2]; rfl
    rw [this])
  rw [Nat.zero_add] at h2
  rw [h2] at h1
  unfold iT at h1
  rw [h1]
  rfl
theorem law_FnExactPauliMatrix (a0 : Int) (a1 : TPauli) (ok0 : I64 a0) (ok1 : ok_Pauli a1) : F_laws_FnExactPauliMatrix a0 a1 = some true := by
  refine law_of a0 a1 ok0 ok1 ?_
  obtain ⟨b, s1, i1, hb⟩ := valid_both a0 a1
  unfold F_spec_PauliMatrix F_impl_PauliMatrix
  rw [s1, i1]
  simp only [Option.bind_some]
  cases b with
  | false => exact ⟨_, _, rfl, rfl, by simp⟩
  | true =>
    obtain ⟨hn, hph, hX, hZ⟩ := hb rfl
    simp only [Bool.not_true, cond_false]
    obtain ⟨n, rfl⟩ : ∃ n : Nat, a0 = n := ⟨a0.toNat, by omega⟩
    obtain ⟨P, X, Z⟩ := a1
    simp only at hph hX hZ
    rw [Int.toNat_natCast] at hX hZ
    obtain ⟨ph, rfl⟩ : ∃ k : Nat, P = k := ⟨P.toNat, by omega⟩
    obtain ⟨x, rfl⟩ : ∃ k : Nat, X = k := ⟨X.toNat, by omega⟩
    obtain ⟨z, rfl⟩ : ∃ k : Nat, Z = k := ⟨Z.toNat, by omega⟩
    have hn' : 1 ≤ n ∧ n ≤ 5 := by omega
    have hp := pow_le hn'
    have hd := pow_dim hn'
    rw [gates_eq hn' (by omega) (by omega) (by omega), spec_pm hn' (by omega)]
    simp only [Option.bind_some]
    rw [chk_t (by omega), chk_t (by omega), shl_i hn']
    rw [(im_matrixOf (cell := fun x_0 x_1 => F_impl_PauliMatrix_1 x_0 x_1 (TPauli.mk ph x z) n) (cellO := fun i j => some (pc (if (∀ t, t < n → bi j (n - 1 - t) = (bi i (n - 1 - t) + bi x t) % 2) then some (kpw n ph x z i n) else none))) hd hd hp.2 hp.2 (fun i j hi hj => ⟨by rw [impl_pm hn' (by omega) (by omega) (by omega) hi hj]; rfl, fun w hw => by cases hw; exact pc_ok _⟩)).1]
    have hg : gridO (fun i j => some (pc (if (∀ t, t < n → bi j (n - 1 - t) = (bi i (n - 1 - t) + bi x t) % 2) then some (kpw n ph x z i n) else none))) (2 ^ n) (2 ^ n) = some (pgrid (2 ^ n) (2 ^ n) fun i j => (row1 id (fun _ => 0) (csg n (pgs ph x z n) i) j).map fun y => cka n (pgs ph x z n) i + y) := grid_is fun i j hi hj => by
      obtain ⟨v1, v2, v3⟩ := pgs_val (ph := ph) (x := x) (z := z) hn' n i (Nat.le_refl _) hi
      have hiff : (∀ t, t < n → bi j (n - 1 - t) = (bi i (n - 1 - t) + bi x t) % 2) ↔ j = csg n (pgs ph x z n) i := by
        constructor
        · intro h
          exact bits_ext hj v1 fun t ht => by rw [h t ht, v2 t ht, if_pos ht]
        · intro h t ht
          rw [h, v2 t ht, if_pos ht]
      congr 2
      unfold row1
      by_cases hc : j = csg n (pgs ph x z n) i
      · rw [if_pos (hiff.2 hc), if_pos (show j = id (csg n (pgs ph x z n) i) from hc), v3]; rfl
      · rw [if_neg (fun h => hc (hiff.1 h)), if_neg (show ¬ j = id (csg n (pgs ph x z n) i) from hc)]; rfl
    rw [hg]
    have hNN : 2 ^ n * 2 ^ n ≤ 32 * 32 := Nat.mul_le_mul hp.2 hp.2
    exact ⟨_, _, rfl, rfl, by simp only [pgrid_len]; omega⟩
end Go.VK
