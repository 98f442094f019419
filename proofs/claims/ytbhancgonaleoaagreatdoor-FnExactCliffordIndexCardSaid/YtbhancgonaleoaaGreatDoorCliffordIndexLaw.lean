/- The plain law of FnExactCliffordIndex: what its Lean function answers, for all arguments. -/
import Derived.Test.YtbhancgonaleoaaGreatDoorCliffordIndexFn
import Derived.Test.YtbhancgonaleoaaGreatDoorLibI
set_option maxRecDepth 10000
set_option maxHeartbeats 1000000
set_option linter.unusedSimpArgs false
set_option linter.unusedVariables false
namespace Go.VK
/-- Two loops in step that both end by themselves. -/
theorem whX2_inv {σ ρ ρ' : Type} {f : σ → Option (Ex σ ρ)} {g : σ → Option (Ex σ ρ')} (I : σ → Prop) (Q : σ → Prop) (m : σ → Nat)
    (h : ∀ s, I s → (∃ s', f s = some (.nx s') ∧ g s = some (.nx s') ∧ I s' ∧ m s' < m s) ∨ ∃ s', f s = some (.br s') ∧ g s = some (.br s') ∧ Q s') :
    ∀ (k : Nat) (s : σ), I s → m s < k → ∃ s', whX f k s = some (.inl s') ∧ whX g k s = some (.inl s') ∧ Q s'
  | 0, _, _, hm => absurd hm (Nat.not_lt_zero _)
  | k + 1, s, hI, hm => by
    rcases h s hI with ⟨s', h1, h1', h2, h3⟩ | ⟨s', h1, h1', h2⟩
    · obtain ⟨s'', h4, h4', h5⟩ := whX2_inv I Q m h k s' h2 (by omega)
      exact ⟨s'', by simp only [whX, h1, Option.bind_some]; exact h4, by simp only [whX, h1', Option.bind_some]; exact h4', h5⟩
    · exact ⟨s', by simp only [whX, h1, Option.bind_some], by simp only [whX, h1', Option.bind_some], h2⟩
theorem fuel_big {n : Nat} (h : n < 18446744073709551616) : n < fuel := h

/-- A coefficient that is taken. -/
def cfOk (n : Int) : Bool := decide (-1000000000 ≤ n) && decide (n ≤ 1000000000)
def rOk (x : TRing) : Bool := cfOk x.A && cfOk x.B && cfOk x.C && cfOk x.D
def rEven (x : TRing) : Bool := (Int.tmod (IntKind.i64.wrap (x.A + x.C)) 2 == 0) && (Int.tmod (IntKind.i64.wrap (x.B + x.D)) 2 == 0)
def dOk (x : TDyadic) : Bool := rOk x.Num && (decide (0 ≤ x.Exp) && decide (x.Exp ≤ 60)) && ((x.Exp == 0) || !rEven x.Num)
theorem cfOk_iff {n : Int} : cfOk n = true ↔ -1000000000 ≤ n ∧ n ≤ 1000000000 := by simp [cfOk]
theorem rOk_iff {x : TRing} : rOk x = true ↔ ((-1000000000 ≤ x.A ∧ x.A ≤ 1000000000) ∧ (-1000000000 ≤ x.B ∧ x.B ≤ 1000000000)) ∧ ((-1000000000 ≤ x.C ∧ x.C ≤ 1000000000) ∧ (-1000000000 ≤ x.D ∧ x.D ≤ 1000000000)) := by
  simp only [rOk, Bool.and_eq_true, cfOk_iff]
  constructor
  · rintro ⟨⟨⟨a, b⟩, c⟩, d⟩; exact ⟨⟨a, b⟩, c, d⟩
  · rintro ⟨⟨a, b⟩, c, d⟩; exact ⟨⟨⟨a, b⟩, c⟩, d⟩
theorem spec_ring (x : TRing) : F_spec_l1Good x = some (rOk x) := by
  unfold F_spec_l1Good F_spec_l1All
  rw [chk_t (by simp)]
  rcases forX_any (f := F_spec_l1All_l1 [x.A, x.B, x.C, x.D] (-1000000000) 1000000000) (l := [x.A, x.B, x.C, x.D]) (p := fun n => !cfOk n) (q := fun _ => false) (fun i y hy => by
    have e : F_spec_l1In y (-1000000000) 1000000000 = some (cfOk y) := rfl
    unfold F_spec_l1All_l1; simp only [getI_nat, hy, Option.bind_some, e]; cases cfOk y <;> rfl) with ⟨h1, h2⟩ | ⟨h1, i, _, h2⟩
  · rw [h2]; simp at h1; simp [orR, rOk, h1]
  · rw [h2]; simp only [Option.bind_some, orR]; congr 1; symm
    cases h : rOk x with
    | false => rfl
    | true => simp only [rOk, Bool.and_eq_true] at h; simp [h] at h1
theorem impl_coef (n : Int) : F_impl_isCoef n = some (cfOk n) := rfl
theorem impl_ring (x : TRing) : F_impl_IsValidRing x = some (rOk x) := by
  unfold F_impl_IsValidRing rOk
  simp only [impl_coef, Option.bind_some, gb]
  cases cfOk x.A <;> cases cfOk x.B <;> cases cfOk x.C <;> cases cfOk x.D <;> rfl
theorem spec_even (x : TRing) : F_spec_l1Even x = some (rEven x) := rfl
theorem impl_even (x : TRing) : F_impl_isEven x = some (rEven x) := rfl
theorem spec_dyadic (x : TDyadic) : F_spec_l2Good x = some (dOk x) := by
  unfold F_spec_l2Good F_spec_l1In dOk
  simp only [spec_ring, spec_even, Option.bind_some, gb]
  cases rOk x.Num <;> cases decide (0 ≤ x.Exp) && decide (x.Exp ≤ 60) <;> cases x.Exp == 0 <;> cases rEven x.Num <;> rfl
theorem impl_dyadic (x : TDyadic) : F_impl_IsValidDyadic x = some (dOk x) := by
  unfold F_impl_IsValidDyadic F_impl_within dOk
  simp only [impl_ring, impl_even, Option.bind_some, gb]
  cases rOk x.Num <;> cases decide (0 ≤ x.Exp) && decide (x.Exp ≤ 60) <;> cases x.Exp == 0 <;> cases rEven x.Num <;> rfl
def rZero : TRing := TRing.mk 0 0 0 0
def dZero : TDyadic := TDyadic.mk rZero 0
theorem ring_if (out : TRing) (args : List TRing) (hl : args.length ≤ 10) : F_impl_ringIf out args = some (if args.all rOk && rOk out then (out, true) else (rZero, false)) := by
  unfold F_impl_ringIf
  rw [chk_t (by omega), chk_t (by simp; omega)]
  rcases forX_any (f := F_impl_ringIf_l1 args out) (l := args ++ [out]) (p := fun x => !rOk x) (q := fun _ => (TRing.mk 0 0 0 0, false)) (fun i y hy => by
    unfold F_impl_ringIf_l1; simp only [getI_nat, hy, Option.bind_some, impl_ring]; cases rOk y <;> rfl) with ⟨h1, h2⟩ | ⟨h1, i, _, h2⟩
  · rw [h2]
    have : (args.all rOk && rOk out) = true := by
      simp only [List.any_append, List.any_cons, List.any_nil, Bool.or_false, Bool.or_eq_false_iff] at h1
      simp only [Bool.and_eq_true, List.all_eq_true]
      exact ⟨fun x hx => by have := List.any_eq_false.1 h1.1 x hx; simpa using this, by simpa using h1.2⟩
    rw [this]; rfl
  · rw [h2]
    have : (args.all rOk && rOk out) = false := by
      simp only [List.any_append, List.any_cons, List.any_nil, Bool.or_false, Bool.or_eq_true] at h1
      rcases h1 with h | h
      · obtain ⟨x, hx, hp⟩ := List.any_eq_true.1 h
        have : args.all rOk = false := by rw [List.all_eq_false]; exact ⟨x, hx, by simpa using hp⟩
        rw [this]; rfl
      · simp at h; rw [h]; simp
    rw [this]; rfl

def rHalf (x : TRing) : TRing := TRing.mk (Int.tdiv (x.B - x.D) 2) (Int.tdiv (x.A + x.C) 2) (Int.tdiv (x.B + x.D) 2) (Int.tdiv (x.C - x.A) 2)
def rRoot (x : TRing) : TRing := TRing.mk (x.B - x.D) (x.A + x.C) (x.B + x.D) (x.C - x.A)
theorem wr {a : Int} (h : -9000000000000000000 ≤ a ∧ a ≤ 9000000000000000000) : IntKind.i64.wrap a = a := wrap_i64 ⟨by omega, by omega⟩
theorem tdiv_le' {a : Int} (h : -2000000000 ≤ a ∧ a ≤ 2000000000) : -1000000000 ≤ Int.tdiv a 2 ∧ Int.tdiv a 2 ≤ 1000000000 := by
  rcases Int.le_total 0 a with h0 | h0
  · rw [Int.tdiv_eq_ediv_of_nonneg h0]; omega
  · have e : a = -(-a) := by omega
    rw [e, Int.neg_tdiv, Int.tdiv_eq_ediv_of_nonneg (by omega)]; omega
theorem half_ok {x : TRing} (h : rOk x = true) : rOk (rHalf x) = true := by
  rw [rOk_iff] at h ⊢
  exact ⟨⟨tdiv_le' (by omega), tdiv_le' (by omega)⟩, tdiv_le' (by omega), tdiv_le' (by omega)⟩
theorem spec_root {x : TRing} (h : rOk x = true) : F_spec_l1Root x = some (rRoot x) := by
  rw [rOk_iff] at h
  unfold F_spec_l1Root rRoot
  rw [wr (a := x.B - x.D) (by omega), wr (a := x.A + x.C) (by omega), wr (a := x.B + x.D) (by omega), wr (a := x.C - x.A) (by omega)]
theorem spec_half {x : TRing} (h : rOk x = true) : F_spec_l1Half x = some (rHalf x) := by
  unfold F_spec_l1Half
  rw [spec_root h]
  have h' := h
  rw [rOk_iff] at h
  have t := half_ok h'
  rw [rOk_iff] at t
  simp only [Option.bind_some, rRoot]
  unfold rHalf at t ⊢
  simp only at t
  rw [wr (a := Int.tdiv (x.B - x.D) 2) (by omega), wr (a := Int.tdiv (x.A + x.C) 2) (by omega), wr (a := Int.tdiv (x.B + x.D) 2) (by omega), wr (a := Int.tdiv (x.C - x.A) 2) (by omega)]
theorem impl_half {x : TRing} (h : rOk x = true) (he : rEven x = true) : F_impl_DivRootTwo x = some (rHalf x, true) := by
  unfold F_impl_DivRootTwo
  have h' := h
  have t := half_ok h'
  have tt := t
  rw [rOk_iff] at h t
  simp only [impl_ring, impl_even, h', he, Option.bind_some, gb, Bool.not_true, Bool.not_false, cond_true, Bool.or_self, cond_false]
  rw [wr (a := x.B - x.D) (by omega), wr (a := x.A + x.C) (by omega), wr (a := x.B + x.D) (by omega), wr (a := x.C - x.A) (by omega)]
  unfold rHalf at t tt ⊢
  simp only at t
  rw [wr (a := Int.tdiv (x.B - x.D) 2) (by omega), wr (a := Int.tdiv (x.A + x.C) 2) (by omega), wr (a := Int.tdiv (x.B + x.D) 2) (by omega), wr (a := Int.tdiv (x.C - x.A) 2) (by omega)]
  rw [ring_if _ _ (by simp)]
  simp [h', tt]
/-- Both bring a number to its lowest terms, and alike. -/
theorem low_both {x : TRing} {e : Int} (hx : rOk x = true) (he : 0 ≤ e ∧ e ≤ 60) : ∃ z, F_spec_l2Low x e = some z ∧ F_impl_DyadicOf x e = some (z, true) ∧ dOk z = true := by
  obtain ⟨⟨e', A, B, C, D⟩, h1, h2, h3, h4, h5, h6⟩ := whX2_inv (f := F_spec_l2Low_l1) (g := F_impl_DyadicOf_l1) (fun s => rOk (TRing.mk s.2.1 s.2.2.1 s.2.2.2.1 s.2.2.2.2) = true ∧ 0 ≤ s.1 ∧ s.1 ≤ 60)
    (fun s => rOk (TRing.mk s.2.1 s.2.2.1 s.2.2.2.1 s.2.2.2.2) = true ∧ 0 ≤ s.1 ∧ s.1 ≤ 60 ∧ ((s.1 == 0) || !rEven (TRing.mk s.2.1 s.2.2.1 s.2.2.2.1 s.2.2.2.2)) = true) (fun s => s.1.toNat)
    (fun s ⟨hr, h0, h60⟩ => by
      obtain ⟨e, A, B, C, D⟩ := s
      simp only at hr h0 h60
      unfold F_spec_l2Low_l1 F_impl_DyadicOf_l1
      simp only [spec_even, impl_even, Option.bind_some, gb]
      by_cases hpos : 0 < e
      · rw [decide_eq_true hpos]
        cases hev : rEven (TRing.mk A B C D) with
        | true =>
          simp only [cond_true, Bool.and_self, spec_half hr, impl_half hr hev, Option.bind_some]
          refine .inl ⟨_, rfl, rfl, ⟨half_ok hr, ?_⟩, ?_⟩
          · show 0 ≤ IntKind.i64.wrap (e - 1) ∧ IntKind.i64.wrap (e - 1) ≤ 60
            rw [wr (by omega)]; omega
          · show (IntKind.i64.wrap (e - 1)).toNat < e.toNat
            rw [wr (by omega)]; omega
        | false =>
          simp only [cond_true, Bool.and_false, cond_false]
          exact .inr ⟨_, rfl, rfl, hr, h0, h60, by simp [hev]⟩
      · rw [decide_eq_false hpos]
        simp only [cond_false, Bool.false_and]
        have : e = 0 := by omega
        exact .inr ⟨_, rfl, rfl, hr, h0, h60, by simp [this]⟩)
    fuel (e, x.A, x.B, x.C, x.D) ⟨hx, he.1, he.2⟩ (fuel_big (by omega))
  refine ⟨TDyadic.mk (TRing.mk A B C D) e', ?_, ?_, ?_⟩
  · unfold F_spec_l2Low; rw [h1]; rfl
  · unfold F_impl_DyadicOf F_impl_within
    simp only [impl_ring, hx, Option.bind_some, gb, Bool.not_true, Bool.not_false, cond_true, Bool.false_or]
    rw [decide_eq_true he.1, decide_eq_true he.2]
    simp only [Bool.and_self, Bool.not_true, cond_false]
    rw [h2]; rfl
  · simp only at h3 h4 h5 h6
    unfold dOk
    simp only [h3, decide_eq_true h4, decide_eq_true h5, Bool.true_and, Bool.and_self]
    exact h6

theorem d_parts {x : TDyadic} (h : dOk x = true) : rOk x.Num = true ∧ 0 ≤ x.Exp ∧ x.Exp ≤ 60 := by
  unfold dOk at h
  simp only [Bool.and_eq_true, decide_eq_true_eq] at h
  exact ⟨h.1.1, h.1.2.1, h.1.2.2⟩
theorem dZero_ok : dOk dZero = true := by decide
theorem rZero_ok : rOk rZero = true := by decide
def cB (b : Bool) : Tl2C := Tl2C.mk b
theorem spec_cring (b : Bool) (x : TRing) : F_spec_l2C_ring (cB b) x = some (if rOk x then (x, cB b) else (rZero, cB true)) := by
  unfold F_spec_l2C_ring
  rw [spec_ring]
  simp only [Option.bind_some]
  cases rOk x <;> rfl
def rMul (x y : TRing) : TRing := (F_spec_l1Mul x y).getD rZero
theorem impl_rmul {x y : TRing} (hx : rOk x = true) (hy : rOk y = true) : F_impl_MulRing x y = some (if rOk (rMul x y) then (rMul x y, true) else (rZero, false)) := by
  have e := ring_if (rMul x y) [x, y] (by simp)
  simp only [List.all_cons, List.all_nil, hx, hy, Bool.true_and] at e
  have e2 : F_impl_MulRing x y = (F_impl_ringIf (rMul x y) [x, y]).bind fun p => some (p.1, p.2) := rfl
  rw [e2, e]
  cases rOk (rMul x y) <;> rfl
theorem mul_both {x y : TDyadic} (hx : dOk x = true) (hy : dOk y = true) :
    (∃ z, dOk z = true ∧ (∀ b, F_spec_l2C_mul (cB b) x y = some (z, cB b)) ∧ F_impl_MulDyadic x y = some (z, true)) ∨
      ((∀ b, ∃ z, dOk z = true ∧ F_spec_l2C_mul (cB b) x y = some (z, cB true)) ∧ F_impl_MulDyadic x y = some (dZero, false)) := by
  obtain ⟨x1, x2, x3⟩ := d_parts hx
  obtain ⟨y1, y2, y3⟩ := d_parts hy
  have hw : IntKind.i64.wrap (x.Exp + y.Exp) = x.Exp + y.Exp := wr (by omega)
  have hi : ∀ q : TRing × Bool, F_impl_MulRing x.Num y.Num = some q → F_impl_MulDyadic x y = (bif !q.2 then some (dZero, false) else (F_impl_DyadicOf q.1 (x.Exp + y.Exp)).bind fun p => some (p.1, p.2)) := fun q hq => by
    unfold F_impl_MulDyadic
    rw [hq]
    simp only [Option.bind_some, impl_dyadic, hx, hy, gb, Bool.not_true, Bool.not_false, cond_true, Bool.false_or, hw]
    rfl
  by_cases he : x.Exp + y.Exp ≤ 60
  · have hs : ∀ b, F_spec_l2C_mul (cB b) x y = (F_spec_l2C_ring (cB b) (rMul x.Num y.Num)).bind fun p => (F_spec_l2Low p.1 (x.Exp + y.Exp)).bind fun r => some (r, p.2) := fun b => by
      unfold F_spec_l2C_mul
      rw [hw, decide_eq_false (show ¬ (60 : Int) < x.Exp + y.Exp by omega)]
      rfl
    cases hr : rOk (rMul x.Num y.Num) with
    | true =>
      obtain ⟨z, z1, z2, z3⟩ := low_both hr (e := x.Exp + y.Exp) ⟨by omega, he⟩
      refine .inl ⟨z, z3, fun b => ?_, ?_⟩
      · rw [hs, spec_cring, hr]; simp only [if_true, Option.bind_some, z1]
      · rw [hi _ (impl_rmul x1 y1), hr]; simp only [if_true, Bool.not_true, cond_false, z2, Option.bind_some]
    | false =>
      refine .inr ⟨fun b => ?_, ?_⟩
      · obtain ⟨z, z1, z2, z3⟩ := low_both rZero_ok (e := x.Exp + y.Exp) ⟨by omega, he⟩
        exact ⟨z, z3, by rw [hs, spec_cring, hr]; simp only [Bool.false_eq_true, if_false, Option.bind_some, z1]⟩
      · rw [hi _ (impl_rmul x1 y1), hr]; rfl
  · refine .inr ⟨fun b => ⟨dZero, dZero_ok, ?_⟩, ?_⟩
    · unfold F_spec_l2C_mul
      rw [hw, decide_eq_true (show (60 : Int) < x.Exp + y.Exp by omega)]
      rfl
    · rw [hi _ (impl_rmul x1 y1)]
      cases hr : rOk (rMul x.Num y.Num) with
      | false => rfl
      | true =>
        simp only [if_true, Bool.not_true, cond_false]
        unfold F_impl_DyadicOf F_impl_within
        simp only [impl_ring, hr, Option.bind_some, gb, Bool.not_true, Bool.not_false, cond_true, Bool.false_or]
        rw [decide_eq_false (show ¬ x.Exp + y.Exp ≤ 60 by omega)]
        simp only [Bool.and_false, Bool.not_false, cond_true]
        rfl

theorem impl_root {x : TRing} (h : rOk x = true) : F_impl_MulRootTwo x = some (if rOk (rRoot x) then (rRoot x, true) else (rZero, false)) := by
  unfold F_impl_MulRootTwo
  have h' := h
  rw [rOk_iff] at h
  rw [wr (a := x.B - x.D) (by omega), wr (a := x.A + x.C) (by omega), wr (a := x.B + x.D) (by omega), wr (a := x.C - x.A) (by omega)]
  have e := ring_if (rRoot x) [x] (by simp)
  simp only [List.all_cons, List.all_nil, h', Bool.true_and] at e
  show (F_impl_ringIf (rRoot x) [x]).bind _ = _
  rw [e]
  cases rOk (rRoot x) <;> rfl
def rTup (b : Bool) (x : TRing) (e : Int) : Bool × Int × Int × Int × Int × Int := (b, x.A, x.B, x.C, x.D, e)
def iTup (x : TRing) (ok : Bool) (e : Int) : Int × Int × Int × Int × Bool × Int := (x.A, x.B, x.C, x.D, ok, e)
/-- A number's numerator for a greater exponent, in the specification's loop. -/
theorem spec_raise {f : Bool × Int × Int × Int × Int × Int → Option (Ex (Bool × Int × Int × Int × Int × Int) (TDyadic × Tl2C))} {E : Int} (hE : E ≤ 60)
    (hf : ∀ b x e, rOk x = true → 0 ≤ e → e ≤ 60 → f (rTup b x e) = some (bif decide (e < E) then .nx (if rOk (rRoot x) then rTup b (rRoot x) (e + 1) else rTup true rZero (e + 1)) else .br (rTup b x e))) :
    ∀ (k : Nat) (b : Bool) (x : TRing) (e : Int), rOk x = true → 0 ≤ e → e ≤ E → (E - e).toNat < k → ∃ b' x', whX f k (rTup b x e) = some (.inl (rTup b' x' E)) ∧ rOk x' = true ∧ (b = true → b' = true)
  | 0, _, _, _, _, _, _, hk => absurd hk (Nat.not_lt_zero _)
  | k + 1, b, x, e, hx, h0, h1, hk => by
    have h := hf b x e hx h0 (by omega)
    by_cases hlt : e < E
    · rw [decide_eq_true hlt, cond_true] at h
      cases hr : rOk (rRoot x) with
      | true =>
        rw [hr] at h; simp only [if_true] at h
        obtain ⟨b', x', e1, e2, e3⟩ := spec_raise hE hf k b (rRoot x) (e + 1) hr (by omega) (by omega) (by omega)
        exact ⟨b', x', by simp only [whX, h, Option.bind_some]; exact e1, e2, e3⟩
      | false =>
        rw [hr] at h; simp only [Bool.false_eq_true, if_false] at h
        obtain ⟨b', x', e1, e2, e3⟩ := spec_raise hE hf k true rZero (e + 1) rZero_ok (by omega) (by omega) (by omega)
        exact ⟨b', x', by simp only [whX, h, Option.bind_some]; exact e1, e2, fun _ => e3 rfl⟩
    · rw [decide_eq_false hlt, cond_false] at h
      have : e = E := by omega
      subst this
      exact ⟨b, x, by simp only [whX, h, Option.bind_some], hx, id⟩
theorem impl_raise_step {E : Int} {x : TRing} {e : Int} (hx : rOk x = true) (h0 : 0 ≤ e) (h1 : e ≤ 60) (ok : Bool) :
    F_impl_raised_l1 E (iTup x ok e) = some (bif decide (e < E) && ok then .nx (if rOk (rRoot x) then iTup (rRoot x) true (e + 1) else iTup rZero false (e + 1)) else .br (iTup x ok e)) := by
  unfold F_impl_raised_l1 iTup
  simp only [impl_root hx]
  rw [wr (a := e + 1) (by omega)]
  cases decide (e < E) && ok <;> cases rOk (rRoot x) <;> rfl
theorem raise_both {f : Bool × Int × Int × Int × Int × Int → Option (Ex (Bool × Int × Int × Int × Int × Int) (TDyadic × Tl2C))} {E : Int} (hE : E ≤ 60)
    (hf : ∀ b x e, rOk x = true → 0 ≤ e → e ≤ 60 → f (rTup b x e) = some (bif decide (e < E) then .nx (if rOk (rRoot x) then rTup b (rRoot x) (e + 1) else rTup true rZero (e + 1)) else .br (rTup b x e))) :
    ∀ (k : Nat) (x : TRing) (e : Int), rOk x = true → 0 ≤ e → e ≤ E → (E - e).toNat < k →
      (∃ x', rOk x' = true ∧ (∀ b, whX f k (rTup b x e) = some (.inl (rTup b x' E))) ∧ whX (F_impl_raised_l1 E) k (iTup x true e) = some (.inl (iTup x' true E))) ∨
        ((∀ b, ∃ x', rOk x' = true ∧ whX f k (rTup b x e) = some (.inl (rTup true x' E))) ∧ ∃ x'' e', rOk x'' = true ∧ whX (F_impl_raised_l1 E) k (iTup x true e) = some (.inl (iTup x'' false e')))
  | 0, _, _, _, _, _, hk => absurd hk (Nat.not_lt_zero _)
  | k + 1, x, e, hx, h0, h1, hk => by
    have h := fun b => hf b x e hx h0 (by omega)
    have hg := impl_raise_step (E := E) hx h0 (by omega) true
    by_cases hlt : e < E
    · simp only [decide_eq_true hlt, cond_true, Bool.true_and] at h hg
      cases hr : rOk (rRoot x) with
      | true =>
        simp only [hr, if_true] at h hg
        rcases raise_both hE hf k (rRoot x) (e + 1) hr (by omega) (by omega) (by omega) with ⟨x', e1, e2, e3⟩ | ⟨e1, x'', e', e2, e3⟩
        · exact .inl ⟨x', e1, fun b => by simp only [whX, h, Option.bind_some]; exact e2 b, by simp only [whX, hg, Option.bind_some]; exact e3⟩
        · refine .inr ⟨fun b => ?_, x'', e', e2, by simp only [whX, hg, Option.bind_some]; exact e3⟩
          obtain ⟨x', e4, e5⟩ := e1 b
          exact ⟨x', e4, by simp only [whX, h, Option.bind_some]; exact e5⟩
      | false =>
        simp only [hr, Bool.false_eq_true, if_false] at h hg
        refine .inr ⟨fun b => ?_, rZero, e + 1, rZero_ok, ?_⟩
        · obtain ⟨b', x', e1, e2, e3⟩ := spec_raise hE hf k true rZero (e + 1) rZero_ok (by omega) (by omega) (by omega)
          have : b' = true := e3 rfl
          subst this
          exact ⟨x', e2, by simp only [whX, h, Option.bind_some]; exact e1⟩
        · cases k with
          | zero => omega
          | succ k =>
            have hg2 := impl_raise_step (E := E) rZero_ok (show 0 ≤ e + 1 by omega) (by omega) false
            simp only [Bool.and_false, cond_false] at hg2
            simp only [whX, hg, Option.bind_some, hg2]
    · simp only [decide_eq_false hlt, cond_false, Bool.false_and] at h hg
      have : e = E := by omega
      subst this
      exact .inl ⟨x, hx, fun b => by simp only [whX, h, Option.bind_some], by simp only [whX, hg, Option.bind_some]⟩
def rAdd (x y : TRing) : TRing := (F_spec_l1Add x y).getD rZero
theorem impl_radd {x y : TRing} (hx : rOk x = true) (hy : rOk y = true) : F_impl_AddRing x y = some (if rOk (rAdd x y) then (rAdd x y, true) else (rZero, false)) := by
  have e := ring_if (rAdd x y) [x, y] (by simp)
  simp only [List.all_cons, List.all_nil, hx, hy, Bool.true_and] at e
  have e2 : F_impl_AddRing x y = (F_impl_ringIf (rAdd x y) [x, y]).bind fun p => some (p.1, p.2) := rfl
  rw [e2, e]
  cases rOk (rAdd x y) <;> rfl
theorem add_l1 (y : TDyadic) (b : Bool) (x : TRing) (e : Int) (hx : rOk x = true) (h0 : 0 ≤ e) (h1 : e ≤ 60) :
    F_spec_l2C_add_l1 y (rTup b x e) = some (bif decide (e < y.Exp) then .nx (if rOk (rRoot x) then rTup b (rRoot x) (e + 1) else rTup true rZero (e + 1)) else .br (rTup b x e)) := by
  have hr := spec_cring b (rRoot x)
  unfold cB at hr
  unfold F_spec_l2C_add_l1 rTup
  simp only [spec_root hx, hr, Option.bind_some]
  rw [wr (a := e + 1) (by omega)]
  cases decide (e < y.Exp) <;> cases rOk (rRoot x) <;> rfl
theorem add_l2 (E : Int) (b0 : Bool) (A C D : Int) (b : Bool) (x : TRing) (e : Int) (hx : rOk x = true) (h0 : 0 ≤ e) (h1 : e ≤ 60) :
    F_spec_l2C_add_l2 E b0 A C D (rTup b x e) = some (bif decide (e < E) then .nx (if rOk (rRoot x) then rTup b (rRoot x) (e + 1) else rTup true rZero (e + 1)) else .br (rTup b x e)) := by
  have hr := spec_cring b (rRoot x)
  unfold cB at hr
  unfold F_spec_l2C_add_l2 rTup
  simp only [spec_root hx, hr, Option.bind_some]
  rw [wr (a := e + 1) (by omega)]
  cases decide (e < E) <;> cases rOk (rRoot x) <;> rfl
/-- The end of a sum in the specification. -/
def fin (b : Bool) (a c : TRing) (E : Int) : Option (TDyadic × Tl2C) :=
  (F_spec_l2C_ring (cB b) (rAdd a c)).bind fun p => (F_spec_l2Low p.1 E).bind fun r => some (r, p.2)
theorem fin_bad (a c : TRing) {E : Int} (hE : 0 ≤ E ∧ E ≤ 60) : ∃ z, dOk z = true ∧ fin true a c E = some (z, cB true) := by
  unfold fin
  rw [spec_cring]
  cases hr : rOk (rAdd a c) with
  | true =>
    obtain ⟨z, z1, _, z3⟩ := low_both hr hE
    exact ⟨z, z3, by simp only [if_true, Option.bind_some, z1]⟩
  | false =>
    obtain ⟨z, z1, _, z3⟩ := low_both rZero_ok hE
    exact ⟨z, z3, by simp only [Bool.false_eq_true, if_false, Option.bind_some, z1]⟩
theorem fin_both {a c : TRing} {E : Int} (hE : 0 ≤ E ∧ E ≤ 60) :
    (rOk (rAdd a c) = true ∧ ∃ z, dOk z = true ∧ (∀ b, fin b a c E = some (z, cB b)) ∧ F_impl_DyadicOf (rAdd a c) E = some (z, true)) ∨ (rOk (rAdd a c) = false ∧ ∀ b, ∃ z, dOk z = true ∧ fin b a c E = some (z, cB true)) := by
  cases hr : rOk (rAdd a c) with
  | true =>
    obtain ⟨z, z1, z2, z3⟩ := low_both hr hE
    exact .inl ⟨rfl, z, z3, fun b => by unfold fin; rw [spec_cring, hr]; simp only [if_true, Option.bind_some, z1], z2⟩
  | false =>
    obtain ⟨z, z1, _, z3⟩ := low_both rZero_ok hE
    exact .inr ⟨rfl, fun b => ⟨z, z3, by unfold fin; rw [spec_cring, hr]; simp only [Bool.false_eq_true, if_false, Option.bind_some, z1]⟩⟩
/-- The specification's sum: its two loops, then its end. -/
theorem spec_add_eq (b : Bool) (x y : TDyadic) {b1 b2 : Bool} {a c : TRing} {e1 e2 : Int} (h1 : whX (F_spec_l2C_add_l1 y) fuel (rTup b x.Num x.Exp) = some (.inl (rTup b1 a e1)))
    (h2 : whX (F_spec_l2C_add_l2 e1 b1 a.A a.C a.D) fuel (rTup b1 y.Num y.Exp) = some (.inl (rTup b2 c e2))) : F_spec_l2C_add (cB b) x y = fin b2 a c e1 := by
  unfold F_spec_l2C_add
  unfold rTup at h1 h2
  show (whX (F_spec_l2C_add_l1 y) fuel (b, x.Num.A, x.Num.B, x.Num.C, x.Num.D, x.Exp)).bind _ = _
  rw [h1]
  simp only [Option.bind_some, orR]
  rw [h2]
  rfl
theorem raised_of {x : TDyadic} {E : Int} {a : TRing} {ok : Bool} {e : Int} (h : whX (F_impl_raised_l1 E) fuel (iTup x.Num true x.Exp) = some (.inl (iTup a ok e))) : F_impl_raised x E = some (a, ok) := by
  unfold F_impl_raised
  unfold iTup at h
  rw [h]
  rfl
theorem comb_add {x y : TDyadic} (hx : dOk x = true) (hy : dOk y = true) {E : Int} (hE : (if x.Exp < y.Exp then y.Exp else x.Exp) = E) {a c : TRing} {oa oc : Bool} (h1 : F_impl_raised x E = some (a, oa)) (h2 : F_impl_raised y E = some (c, oc))
    (ha : rOk a = true) (hc : rOk c = true) : F_impl_AddDyadic x y = (bif oa && oc && rOk (rAdd a c) then F_impl_DyadicOf (rAdd a c) E else some (dZero, false)) := by
  unfold F_impl_AddDyadic F_impl_combined
  rw [hE]
  simp only [impl_dyadic, hx, hy, Option.bind_some, gb, Bool.not_true, Bool.not_false, cond_true, Bool.or_self, cond_false, h1, h2, impl_radd ha hc]
  cases oa <;> cases oc <;> cases hr : rOk (rAdd a c) <;> simp only [Bool.not_true, Bool.not_false, Bool.or_self, Bool.or_true, Bool.true_or, Bool.false_or, Bool.or_false, Bool.and_self, Bool.and_true, Bool.and_false, Bool.true_and, Bool.false_and, if_true, Bool.false_eq_true, if_false, Option.bind_some, cond_true, cond_false]
  all_goals first | rfl | (cases F_impl_DyadicOf (rAdd a c) E <;> rfl)
theorem add_both {x y : TDyadic} (hx : dOk x = true) (hy : dOk y = true) :
    (∃ z, dOk z = true ∧ (∀ b, F_spec_l2C_add (cB b) x y = some (z, cB b)) ∧ F_impl_AddDyadic x y = some (z, true)) ∨
      ((∀ b, ∃ z, dOk z = true ∧ F_spec_l2C_add (cB b) x y = some (z, cB true)) ∧ F_impl_AddDyadic x y = some (dZero, false)) := by
  obtain ⟨x1, x2, x3⟩ := d_parts hx
  obtain ⟨y1, y2, y3⟩ := d_parts hy
  have stay : ∀ {f : Bool × Int × Int × Int × Int × Int → Option (Ex (Bool × Int × Int × Int × Int × Int) (TDyadic × Tl2C))} {t : Bool × Int × Int × Int × Int × Int}, f t = some (.br t) → whX f fuel t = some (.inl t) := fun h => by
    rw [show fuel = (fuel - 1) + 1 from rfl]; simp only [whX, h, Option.bind_some]
  have stayI : ∀ {E : Int} {z : TDyadic}, rOk z.Num = true → 0 ≤ z.Exp → z.Exp ≤ 60 → ¬ z.Exp < E → F_impl_raised z E = some (z.Num, true) := fun {E z} h h0 h1 hn => by
    refine raised_of (e := z.Exp) ?_
    have := impl_raise_step (E := E) h h0 h1 true
    simp only [decide_eq_false hn, Bool.false_and, cond_false] at this
    rw [show fuel = (fuel - 1) + 1 from rfl]; simp only [whX, this, Option.bind_some]
  by_cases hlt : x.Exp < y.Exp
  · have hE : (if x.Exp < y.Exp then y.Exp else x.Exp) = y.Exp := if_pos hlt
    have hst : ∀ (b : Bool) (a : TRing), whX (F_spec_l2C_add_l2 y.Exp b a.A a.C a.D) fuel (rTup b y.Num y.Exp) = some (.inl (rTup b y.Num y.Exp)) := fun b a => stay (by
      rw [add_l2 _ _ _ _ _ _ _ _ y1 y2 y3, decide_eq_false (by omega)]; rfl)
    rcases raise_both (f := F_spec_l2C_add_l1 y) (E := y.Exp) y3 (add_l1 y) fuel x.Num x.Exp x1 x2 (by omega) (fuel_big (by omega)) with ⟨a, a1, a2, a3⟩ | ⟨a1, a, e', a2, a3⟩
    · have hc := comb_add hx hy hE (raised_of a3) (stayI y1 y2 y3 (by omega)) a1 y1
      rcases fin_both (a := a) (c := y.Num) (E := y.Exp) ⟨y2, y3⟩ with ⟨r1, z, z1, z2, z3⟩ | ⟨r1, z1⟩
      · exact .inl ⟨z, z1, fun b => by rw [spec_add_eq b x y (a2 b) (hst b a)]; exact z2 b, by rw [hc, r1]; exact z3⟩
      · refine .inr ⟨fun b => ?_, by rw [hc, r1]; rfl⟩
        obtain ⟨z, z2, z3⟩ := z1 b
        exact ⟨z, z2, by rw [spec_add_eq b x y (a2 b) (hst b a)]; exact z3⟩
    · have hc := comb_add hx hy hE (raised_of a3) (stayI y1 y2 y3 (by omega)) a2 y1
      refine .inr ⟨fun b => ?_, by rw [hc]; rfl⟩
      obtain ⟨a', _, a5⟩ := a1 b
      obtain ⟨z, z2, z3⟩ := fin_bad a' y.Num (E := y.Exp) ⟨y2, y3⟩
      exact ⟨z, z2, by rw [spec_add_eq b x y a5 (hst true a')]; exact z3⟩
  · have hE : (if x.Exp < y.Exp then y.Exp else x.Exp) = x.Exp := if_neg hlt
    have hst : ∀ (b : Bool), whX (F_spec_l2C_add_l1 y) fuel (rTup b x.Num x.Exp) = some (.inl (rTup b x.Num x.Exp)) := fun b => stay (by
      rw [add_l1 y _ _ _ x1 x2 x3, decide_eq_false (by omega)]; rfl)
    have hr := fun (b0 : Bool) => raise_both (f := F_spec_l2C_add_l2 x.Exp b0 x.Num.A x.Num.C x.Num.D) (E := x.Exp) x3 (add_l2 _ _ _ _ _) fuel y.Num y.Exp y1 y2 (by omega) (fuel_big (by omega))
    have hcm : ∀ {c : TRing} {oc : Bool}, F_impl_raised y x.Exp = some (c, oc) → rOk c = true → F_impl_AddDyadic x y = (bif true && oc && rOk (rAdd x.Num c) then F_impl_DyadicOf (rAdd x.Num c) x.Exp else some (dZero, false)) := fun h hc =>
      comb_add hx hy hE (stayI x1 x2 x3 (by omega)) h x1 hc
    rcases hr true with ⟨c, c1, c2, c3⟩ | ⟨c1, c, e', c2, c3⟩
    · have hc := hcm (raised_of c3) c1
      have hs : ∀ b, F_spec_l2C_add (cB b) x y = fin b x.Num c x.Exp := fun b => by
        rcases hr b with ⟨c', d1, d2, d3⟩ | ⟨_, c', e', _, d3⟩
        · rw [c3] at d3
          have : c = c' := by cases c; cases c'; simp only [iTup, Option.some.injEq, Sum.inl.injEq, Prod.mk.injEq] at d3; simp only [TRing.mk.injEq]; exact ⟨d3.1, d3.2.1, d3.2.2.1, d3.2.2.2.1⟩
          subst this
          exact spec_add_eq b x y (hst b) (d2 b)
        · rw [c3] at d3
          simp [iTup] at d3
      rcases fin_both (a := x.Num) (c := c) (E := x.Exp) ⟨x2, x3⟩ with ⟨r1, z, z1, z2, z3⟩ | ⟨r1, z1⟩
      · exact .inl ⟨z, z1, fun b => by rw [hs]; exact z2 b, by rw [hc, r1]; exact z3⟩
      · refine .inr ⟨fun b => ?_, by rw [hc, r1]; rfl⟩
        obtain ⟨z, z2, z3⟩ := z1 b
        exact ⟨z, z2, by rw [hs]; exact z3⟩
    · have hc := hcm (raised_of c3) c2
      refine .inr ⟨fun b => ?_, by rw [hc]; rfl⟩
      rcases hr b with ⟨c', d1, d2, d3⟩ | ⟨d1, _⟩
      · rw [c3] at d3; simp [iTup] at d3
      · obtain ⟨c', _, d5⟩ := d1 b
        obtain ⟨z, z2, z3⟩ := fin_bad x.Num c' (E := x.Exp) ⟨x2, x3⟩
        exact ⟨z, z2, by rw [spec_add_eq b x y (hst b) d5]; exact z3⟩

def DM (x y : TDyadic) : Option TDyadic := (F_impl_MulDyadic x y).bind fun p => if p.2 then some p.1 else none
def DA (x y : TDyadic) : Option TDyadic := (F_impl_AddDyadic x y).bind fun p => if p.2 then some p.1 else none
/-- An answer of the program: the number, or zero and false. -/
def dR (o : Option TDyadic) : TDyadic × Bool := match o with | some z => (z, true) | none => (dZero, false)
/-- The specification's step f, from whatever flag, ends in the number o, the flag as it was; or, if there is none, in some number and the flag set. -/
def SP {α : Type} (f : Tl2C → Option (α × Tl2C)) (G : α → Prop) (o : Option α) : Prop :=
  ∀ b, ∃ z b', f (cB b) = some (z, cB b') ∧ G z ∧ ((o = some z ∧ b' = b) ∨ (o = none ∧ b' = true))
theorem SP.bind {α β : Type} {f : Tl2C → Option (α × Tl2C)} {G : α → Prop} {o : Option α} (hf : SP f G o) {h : α → Tl2C → Option (β × Tl2C)} {G' : β → Prop} {o' : α → Option β}
    (hh : ∀ z, G z → SP (h z) G' (o' z)) : SP (fun c => (f c).bind fun p => h p.1 p.2) G' (o.bind o') := fun b => by
  obtain ⟨z, b', h1, h2, h3⟩ := hf b
  obtain ⟨z', b'', h4, h5, h6⟩ := hh z h2 b'
  refine ⟨z', b'', by simp only [h1, Option.bind_some]; exact h4, h5, ?_⟩
  rcases h3 with ⟨rfl, rfl⟩ | ⟨rfl, rfl⟩
  · simpa using h6
  · rcases h6 with ⟨_, h6⟩ | ⟨_, h6⟩
    · exact .inr ⟨rfl, h6⟩
    · exact .inr ⟨rfl, h6⟩
theorem SP.pure {α : Type} {G : α → Prop} {z : α} (h : G z) : SP (fun c => some (z, c)) G (some z) := fun b => ⟨z, b, rfl, h, .inl ⟨rfl, rfl⟩⟩
theorem SP.map {α β : Type} {f : Tl2C → Option (α × Tl2C)} {G : α → Prop} {o : Option α} (hf : SP f G o) {g : α → β} {G' : β → Prop} (hg : ∀ z, G z → G' (g z)) : SP (fun c => (f c).bind fun p => some (g p.1, p.2)) G' (o.map g) := by
  have := hf.bind (h := fun z c => some (g z, c)) (o' := fun z => some (g z)) (fun z hz => SP.pure (hg z hz))
  rwa [Option.map_eq_bind]
theorem spM {x y : TDyadic} (hx : dOk x = true) (hy : dOk y = true) : SP (fun c => F_spec_l2C_mul c x y) (fun z => dOk z = true) (DM x y) := fun b => by
  unfold DM
  rcases mul_both hx hy with ⟨z, h1, h2, h3⟩ | ⟨h1, h2⟩
  · exact ⟨z, b, h2 b, h1, .inl ⟨by rw [h3]; rfl, rfl⟩⟩
  · obtain ⟨z, h3, h4⟩ := h1 b
    exact ⟨z, true, h4, h3, .inr ⟨by rw [h2]; rfl, rfl⟩⟩
theorem spA {x y : TDyadic} (hx : dOk x = true) (hy : dOk y = true) : SP (fun c => F_spec_l2C_add c x y) (fun z => dOk z = true) (DA x y) := fun b => by
  unfold DA
  rcases add_both hx hy with ⟨z, h1, h2, h3⟩ | ⟨h1, h2⟩
  · exact ⟨z, b, h2 b, h1, .inl ⟨by rw [h3]; rfl, rfl⟩⟩
  · obtain ⟨z, h3, h4⟩ := h1 b
    exact ⟨z, true, h4, h3, .inr ⟨by rw [h2]; rfl, rfl⟩⟩
theorem imM {x y : TDyadic} (hx : dOk x = true) (hy : dOk y = true) : F_impl_MulDyadic x y = some (dR (DM x y)) := by
  unfold DM
  rcases mul_both hx hy with ⟨z, h1, h2, h3⟩ | ⟨h1, h2⟩
  · rw [h3]; rfl
  · rw [h2]; rfl
theorem imA {x y : TDyadic} (hx : dOk x = true) (hy : dOk y = true) : F_impl_AddDyadic x y = some (dR (DA x y)) := by
  unfold DA
  rcases add_both hx hy with ⟨z, h1, h2, h3⟩ | ⟨h1, h2⟩
  · rw [h3]; rfl
  · rw [h2]; rfl
theorem dm_ok {x y z : TDyadic} (hx : dOk x = true) (hy : dOk y = true) (h : DM x y = some z) : dOk z = true := by
  unfold DM at h
  rcases mul_both hx hy with ⟨z', h1, h2, h3⟩ | ⟨h1, h2⟩
  · rw [h3] at h; simp at h; rw [← h]; exact h1
  · rw [h2] at h; simp at h
theorem da_ok {x y z : TDyadic} (hx : dOk x = true) (hy : dOk y = true) (h : DA x y = some z) : dOk z = true := by
  unfold DA at h
  rcases add_both hx hy with ⟨z', h1, h2, h3⟩ | ⟨h1, h2⟩
  · rw [h3] at h; simp at h; rw [← h]; exact h1
  · rw [h2] at h; simp at h
theorem dR_ok {o : Option TDyadic} (h : ∀ z, o = some z → dOk z = true) : dOk (dR o).1 = true := by
  cases o with
  | none => exact dZero_ok
  | some z => exact h z rfl
def rNeg (x : TRing) : TRing := TRing.mk (-x.A) (-x.B) (-x.C) (-x.D)
def dNeg (x : TDyadic) : TDyadic := TDyadic.mk (rNeg x.Num) x.Exp
theorem neg_ok (x : TRing) : rOk (rNeg x) = rOk x := by
  rw [Bool.eq_iff_iff, rOk_iff, rOk_iff]
  unfold rNeg
  simp only
  omega
theorem neg_root (x : TRing) : rRoot (rNeg x) = rNeg (rRoot x) := by
  unfold rRoot rNeg
  simp only [TRing.mk.injEq]
  omega
theorem neg_zero : rNeg rZero = rZero := by decide
theorem spec_neg {y : TDyadic} (h : rOk y.Num = true) : F_spec_l2Neg y = some (dNeg y) := by
  rw [rOk_iff] at h
  unfold F_spec_l2Neg F_spec_l1Neg
  rw [wr (a := -y.Num.A) (by omega), wr (a := -y.Num.B) (by omega), wr (a := -y.Num.C) (by omega), wr (a := -y.Num.D) (by omega)]
  rfl
theorem tmod_neg2 (a : Int) : (Int.tmod (-a) 2 == 0) = (Int.tmod a 2 == 0) := by
  rw [Int.neg_tmod, Bool.eq_iff_iff]
  simp
theorem neg_even {x : TRing} (h : rOk x = true) : rEven (rNeg x) = rEven x := by
  rw [rOk_iff] at h
  unfold rEven rNeg
  simp only
  rw [wr (a := -x.A + -x.C) (by omega), wr (a := -x.B + -x.D) (by omega), wr (a := x.A + x.C) (by omega), wr (a := x.B + x.D) (by omega),
    show -x.A + -x.C = -(x.A + x.C) by omega, show -x.B + -x.D = -(x.B + x.D) by omega, tmod_neg2, tmod_neg2]
theorem neg_dok {y : TDyadic} (h : dOk y = true) : dOk (dNeg y) = true := by
  have hr := (d_parts h).1
  unfold dOk at h ⊢
  unfold dNeg
  simp only [neg_ok, neg_even hr]
  exact h
theorem raise_neg {E : Int} (hE : E ≤ 60) : ∀ (k : Nat) (x : TRing) (ok : Bool) (e : Int), rOk x = true → 0 ≤ e → e ≤ 60 → ∀ {a : TRing} {ok' : Bool} {e' : Int}, whX (F_impl_raised_l1 E) k (iTup x ok e) = some (.inl (iTup a ok' e')) →
    whX (F_impl_raised_l1 E) k (iTup (rNeg x) ok e) = some (.inl (iTup (rNeg a) ok' e'))
  | 0, _, _, _, _, _, _, _, _, _, h => by cases h
  | k + 1, x, ok, e, hx, h0, h1, a, ok', e', h => by
    have s1 := impl_raise_step (E := E) hx h0 h1 ok
    have s2 := impl_raise_step (E := E) (show rOk (rNeg x) = true by rw [neg_ok]; exact hx) h0 h1 ok
    rw [neg_root, neg_ok] at s2
    cases hb : decide (e < E) && ok with
    | true =>
      rw [hb, cond_true] at s1 s2
      have hlt : e < E := by simp at hb; exact hb.1
      cases hr : rOk (rRoot x) with
      | true =>
        simp only [hr, if_true] at s1 s2
        simp only [whX, s1, s2, Option.bind_some] at h ⊢
        exact raise_neg hE k _ _ _ hr (by omega) (by omega) h
      | false =>
        simp only [hr, Bool.false_eq_true, if_false] at s1 s2
        simp only [whX, s1, s2, Option.bind_some] at h ⊢
        have := raise_neg hE k _ _ _ rZero_ok (by omega) (by omega) h
        rwa [neg_zero] at this
    | false =>
      rw [hb, cond_false] at s1 s2
      simp only [whX, s1, s2, Option.bind_some] at h ⊢
      simp only [iTup, Option.some.injEq, Sum.inl.injEq, Prod.mk.injEq] at h ⊢
      obtain ⟨q1, q2, q3, q4, q5, q6⟩ := h
      unfold rNeg
      simp only
      exact ⟨by omega, by omega, by omega, by omega, q5, q6⟩
theorem sub_eq {x y : TDyadic} (hx : dOk x = true) (hy : dOk y = true) : F_impl_SubDyadic x y = F_impl_AddDyadic x (dNeg y) := by
  obtain ⟨x1, x2, x3⟩ := d_parts hx
  obtain ⟨y1, y2, y3⟩ := d_parts hy
  have hn := neg_dok hy
  generalize hE : (if x.Exp < y.Exp then y.Exp else x.Exp) = E
  have hE60 : 0 ≤ E ∧ E ≤ 60 := by subst hE; split <;> omega
  have hxE : x.Exp ≤ E := by subst hE; split <;> omega
  have hyE : y.Exp ≤ E := by subst hE; split <;> omega
  have run : ∀ (z : TRing) (e : Int), rOk z = true → 0 ≤ e → e ≤ E → ∃ a ok e', rOk a = true ∧ whX (F_impl_raised_l1 E) fuel (iTup z true e) = some (.inl (iTup a ok e')) := fun z e hz h0 h1 => by
    rcases raise_both (f := F_spec_l2C_add_l2 E true 0 0 0) (E := E) hE60.2 (add_l2 _ _ _ _ _) fuel z e hz h0 h1 (fuel_big (by omega)) with ⟨a, a1, _, a3⟩ | ⟨_, a, e', a2, a3⟩
    · exact ⟨a, _, _, a1, a3⟩
    · exact ⟨a, _, _, a2, a3⟩
  obtain ⟨a, oa, ea, a1, a2⟩ := run x.Num x.Exp x1 x2 hxE
  obtain ⟨c, oc, ec, c1, c2⟩ := run y.Num y.Exp y1 y2 hyE
  have c3 := raise_neg hE60.2 fuel _ _ _ y1 y2 y3 c2
  have ra := raised_of a2
  have rc := raised_of c2
  have rn := raised_of (x := dNeg y) c3
  have hsub : F_impl_SubRing a c = F_impl_AddRing a (rNeg c) := by
    have k1 := a1; have k2 := c1
    rw [rOk_iff] at k1 k2
    unfold F_impl_SubRing F_impl_AddRing
    have e1 : ∀ out, F_impl_ringIf out [a, c] = F_impl_ringIf out [a, rNeg c] := fun out => by
      have e3 : [a, rNeg c].all rOk = [a, c].all rOk := by simp [neg_ok]
      rw [ring_if _ _ (by simp), ring_if _ _ (by simp), e3]
    rw [e1]
    rfl
  unfold F_impl_SubDyadic F_impl_AddDyadic F_impl_combined
  rw [hE, show (dNeg y).Exp = y.Exp from rfl, hE]
  simp only [impl_dyadic, hx, hy, hn, Option.bind_some, gb, Bool.not_true, Bool.not_false, cond_true, Bool.or_self, cond_false, ra, rc, rn, hsub]

theorem imS {x y : TDyadic} (hx : dOk x = true) (hy : dOk y = true) : F_impl_SubDyadic x y = some (dR (DA x (dNeg y))) := by rw [sub_eq hx hy]; exact imA hx (neg_dok hy)
/-- What the specification holds (z, and its flag b') beside the number o (or none): the flag before is b; once it is set, it stays. -/
def SR {α : Type} (G : α → Prop) (o : Option α) (b : Bool) (z : α) (b' : Bool) : Prop := G z ∧ (b = true → b' = true) ∧ (b = false → (o = some z ∧ b' = false) ∨ (o = none ∧ b' = true))
theorem SR.bind {α β : Type} {G : α → Prop} {G' : β → Prop} {o : Option α} {o' : α → Option β} {b b' b'' : Bool} {z : α} {z' : β} (h1 : SR G o b z b') (h2 : SR G' (o' z) b' z' b'') : SR G' (o.bind o') b z' b'' := by
  refine ⟨h2.1, fun h => h2.2.1 (h1.2.1 h), fun h => ?_⟩
  rcases h1.2.2 h with ⟨rfl, rfl⟩ | ⟨rfl, rfl⟩
  · exact h2.2.2 rfl
  · exact .inr ⟨rfl, h2.2.1 rfl⟩
theorem SR.bad {α : Type} {G : α → Prop} {o : Option α} {z : α} {b' : Bool} (h : SR G o true z b') : b' = true := h.2.1 rfl
theorem SR.good {α : Type} {G : α → Prop} {o : Option α} {z : α} {b' : Bool} (h : SR G o false z b') : (o = some z ∧ b' = false) ∨ (o = none ∧ b' = true) := h.2.2 rfl
theorem SR.pure {α : Type} {G : α → Prop} {z : α} {b : Bool} (h : G z) : SR G (some z) b z b := ⟨h, id, fun hb => .inl ⟨rfl, hb⟩⟩
theorem SR.mono {α : Type} {G G' : α → Prop} {o : Option α} {b b' : Bool} {z : α} (h : SR G o b z b') (hg : G z → G' z) : SR G' o b z b' := ⟨hg h.1, h.2⟩
theorem SR.map {α β : Type} {G : α → Prop} {G' : β → Prop} {o : Option α} {b b' : Bool} {z : α} (h : SR G o b z b') (g : α → β) (hg : G z → G' (g z)) : SR G' (o.map g) b (g z) b' := by
  refine ⟨hg h.1, h.2.1, fun hb => ?_⟩
  rcases h.2.2 hb with ⟨rfl, h2⟩ | ⟨rfl, h2⟩
  · exact .inl ⟨rfl, h2⟩
  · exact .inr ⟨rfl, h2⟩
theorem sr_of {α : Type} {f : Tl2C → Option (α × Tl2C)} {G : α → Prop} {o : Option α} (h : SP f G o) (b : Bool) : ∃ z b', f (cB b) = some (z, cB b') ∧ SR G o b z b' := by
  obtain ⟨z, b', h1, h2, h3⟩ := h b
  refine ⟨z, b', h1, h2, fun hb => ?_, fun hb => ?_⟩
  · rcases h3 with ⟨_, h3⟩ | ⟨_, h3⟩
    · exact h3.trans hb
    · exact h3
  · rcases h3 with ⟨h3, h4⟩ | ⟨h3, h4⟩
    · exact .inl ⟨h3, h4.trans hb⟩
    · exact .inr ⟨h3, h4⟩
theorem srM {x y : TDyadic} (hx : dOk x = true) (hy : dOk y = true) (b : Bool) : ∃ z b', F_spec_l2C_mul (cB b) x y = some (z, cB b') ∧ SR (fun z => dOk z = true) (DM x y) b z b' := sr_of (spM hx hy) b
theorem srA {x y : TDyadic} (hx : dOk x = true) (hy : dOk y = true) (b : Bool) : ∃ z b', F_spec_l2C_add (cB b) x y = some (z, cB b') ∧ SR (fun z => dOk z = true) (DA x y) b z b' := sr_of (spA hx hy) b
theorem sr_it {β τ : Type} {f : Nat → τ → Option τ} {enc : Bool → β → τ} {G : Nat → β → Prop} {st : Nat → β → Option β} {n : Nat}
    (hf : ∀ k b s, k < n → G k s → ∃ z b', f k (enc b s) = some (enc b' z) ∧ SR (G (k + 1)) (st k s) b z b') :
    ∀ (m i : Nat) (s : β) (b : Bool), i + m ≤ n → G i s → ∃ z b', forN f m i (enc b s) = some (enc b' z) ∧ SR (G (i + m)) (forN st m i s) b z b'
  | 0, i, s, b, _, hG => ⟨s, b, rfl, SR.pure hG⟩
  | m + 1, i, s, b, hm, hG => by
    obtain ⟨z, b', h1, h2⟩ := hf i b s (by omega) hG
    obtain ⟨z', b'', h3, h4⟩ := sr_it hf m (i + 1) z b' (by omega) h2.1
    rw [show i + 1 + m = i + (m + 1) by omega] at h4
    exact ⟨z', b'', by simp only [forN, h1, Option.bind_some]; exact h3, h2.bind h4⟩
/-- What a loop that may leave the function ends in. -/
def exO {β τ ρ : Type} (enc : β → τ) (R : ρ) (o : Option β) : τ ⊕ ρ := match o with | some z => .inl (enc z) | none => .inr R
def nxO {β τ ρ : Type} (enc : β → τ) (R : ρ) (o : Option β) : Ex τ ρ := match o with | some z => .nx (enc z) | none => .rt R
theorem im_it {β τ ρ : Type} {g : Nat → τ → Option (Ex τ ρ)} {enc : β → τ} {G : Nat → β → Prop} {st : Nat → β → Option β} {R : ρ} {n : Nat}
    (hg : ∀ k s, k < n → G k s → g k (enc s) = some (nxO enc R (st k s)) ∧ ∀ z, st k s = some z → G (k + 1) z) :
    ∀ (m i : Nat) (s : β), i + m ≤ n → G i s → forX g m i (enc s) = some (exO enc R (forN st m i s)) ∧ ∀ z, forN st m i s = some z → G (i + m) z
  | 0, i, s, _, hG => ⟨rfl, fun z h => by cases h; exact hG⟩
  | m + 1, i, s, hm, hG => by
    obtain ⟨h1, h2⟩ := hg i s (by omega) hG
    cases hs : st i s with
    | none =>
      rw [hs] at h1
      refine ⟨by simp only [forX, h1, nxO, Option.bind_some, forN, hs, Option.bind_none, exO], fun z hz => ?_⟩
      simp only [forN, hs, Option.bind_none] at hz; cases hz
    | some z =>
      rw [hs] at h1
      obtain ⟨h3, h4⟩ := im_it hg m (i + 1) z (by omega) (h2 z hs)
      rw [show i + 1 + m = i + (m + 1) by omega] at h4
      exact ⟨by simp only [forX, h1, nxO, Option.bind_some, forN, hs]; exact h3, fun z' hz => h4 z' (by simpa only [forN, hs, Option.bind_some] using hz)⟩
theorem gI {l : List TDyadic} {x : Int} {n : Nat} (hx : x = (n : Int)) (hn : n < l.length) : getI l x = some (l.getD n dZero) := by
  subst hx; rw [getI_nat, List.getElem?_eq_getElem hn]; simp [hn]
theorem getD_ok {l : List TDyadic} (h : ∀ z ∈ l, dOk z = true) (n : Nat) : dOk (l.getD n dZero) = true := by
  rw [List.getD_eq_getElem?_getD]
  cases hx : l[n]? with
  | none => exact dZero_ok
  | some x => exact h x (List.mem_of_getElem? hx)
def sT (b : Bool) (s : TDyadic) : Bool × Int × Int × Int × Int × Int := (b, s.Num.A, s.Num.B, s.Num.C, s.Num.D, s.Exp)
def iT (s : TDyadic) : Int × Int × Int × Int × Int := (s.Num.A, s.Num.B, s.Num.C, s.Num.D, s.Exp)
/-- One more product onto a sum. -/
def dotS (X Y : Nat → TDyadic) (k : Nat) (s : TDyadic) : Option TDyadic := (DM (X k) (Y k)).bind fun p => DA s p
theorem dot_spec {X Y : Nat → TDyadic} (hX : ∀ k, dOk (X k) = true) (hY : ∀ k, dOk (Y k) = true) (k : Nat) (b : Bool) (s : TDyadic) (hs : dOk s = true) :
    ∃ z b', ((F_spec_l2C_mul (cB b) (X k) (Y k)).bind fun p => (F_spec_l2C_add p.2 s p.1).bind fun q => some (sT q.2.bad q.1)) = some (sT b' z) ∧ SR (fun z => dOk z = true) (dotS X Y k s) b z b' := by
  obtain ⟨z, b', h1, h2⟩ := srM (hX k) (hY k) b
  obtain ⟨z', b'', h3, h4⟩ := srA hs h2.1 b'
  exact ⟨z', b'', by simp only [h1, Option.bind_some, h3]; rfl, h2.bind h4⟩
theorem dot_impl {ρ : Type} {X Y : Nat → TDyadic} (hX : ∀ k, dOk (X k) = true) (hY : ∀ k, dOk (Y k) = true) (R : ρ) (k : Nat) (s : TDyadic) (hs : dOk s = true) :
    ((F_impl_MulDyadic (X k) (Y k)).bind fun p => (F_impl_AddDyadic s p.1).bind fun q => bif (!p.2) || (!q.2) then some (.rt R) else some (.nx (iT q.1))) = some (nxO iT R (dotS X Y k s)) ∧ ∀ z, dotS X Y k s = some z → dOk z = true := by
  unfold dotS
  rw [imM (hX k) (hY k)]
  have ho : dOk (dR (DM (X k) (Y k))).1 = true := dR_ok (fun z hz => dm_ok (hX k) (hY k) hz)
  simp only [Option.bind_some]
  rw [imA hs ho]
  simp only [Option.bind_some]
  cases hm : DM (X k) (Y k) with
  | none => exact ⟨rfl, fun z hz => by cases hz⟩
  | some p =>
    rw [hm] at ho
    simp only [dR, Option.bind_some] at ho ⊢
    cases ha : DA s p with
    | none => exact ⟨rfl, fun z hz => by cases hz⟩
    | some q => exact ⟨rfl, fun z hz => by cases hz; exact da_ok hs ho ha⟩
theorem rr_zero : rRoot rZero = rZero := by decide
theorem raise_zero {E : Int} (hE : E ≤ 60) : ∀ (k : Nat) (e : Int), 0 ≤ e → e ≤ E → (E - e).toNat < k → whX (F_impl_raised_l1 E) k (iTup rZero true e) = some (.inl (iTup rZero true E))
  | 0, _, _, _, hk => absurd hk (Nat.not_lt_zero _)
  | k + 1, e, h0, h1, hk => by
    have h := impl_raise_step (E := E) rZero_ok h0 (by omega) true
    by_cases hlt : e < E
    · rw [decide_eq_true hlt, rr_zero, rZero_ok] at h
      simp only [Bool.and_self, cond_true, if_true] at h
      simp only [whX, h, Option.bind_some]
      exact raise_zero hE k (e + 1) (by omega) (by omega) (by omega)
    · rw [decide_eq_false hlt] at h
      simp only [Bool.false_and, cond_false] at h
      have : e = E := by omega
      subst this
      simp only [whX, h, Option.bind_some]
theorem low_id {x : TDyadic} (h : dOk x = true) : F_impl_DyadicOf x.Num x.Exp = some (x, true) := by
  obtain ⟨h1, h2, h3⟩ := d_parts h
  have hl : F_impl_DyadicOf_l1 (x.Exp, x.Num.A, x.Num.B, x.Num.C, x.Num.D) = some (.br (x.Exp, x.Num.A, x.Num.B, x.Num.C, x.Num.D)) := by
    unfold F_impl_DyadicOf_l1
    simp only [impl_even, Option.bind_some, gb]
    unfold dOk at h
    simp only [Bool.and_eq_true, Bool.or_eq_true, beq_iff_eq, Bool.not_eq_true'] at h
    rcases h.2 with h | h
    · rw [decide_eq_false (show ¬ 0 < x.Exp by omega)]; rfl
    · have e : rEven (TRing.mk x.Num.A x.Num.B x.Num.C x.Num.D) = false := h
      rw [e]; cases decide (0 < x.Exp) <;> rfl
  unfold F_impl_DyadicOf F_impl_within
  simp only [impl_ring, h1, Option.bind_some, gb, Bool.not_true, Bool.not_false, cond_true, Bool.false_or]
  rw [decide_eq_true h2, decide_eq_true h3]
  simp only [Bool.and_self, Bool.not_true, cond_false]
  rw [show fuel = (fuel - 1) + 1 from rfl]
  simp only [whX, hl, Option.bind_some, orR]
theorem zero_add {x : TDyadic} (h : dOk x = true) : DA dZero x = some x := by
  obtain ⟨h1, h2, h3⟩ := d_parts h
  have hr := h1
  rw [rOk_iff] at hr
  have e : rAdd rZero x.Num = x.Num := by
    unfold rAdd F_spec_l1Add rZero
    simp only [Int.zero_add, Option.getD_some]
    rw [wr (a := x.Num.A) (by omega), wr (a := x.Num.B) (by omega), wr (a := x.Num.C) (by omega), wr (a := x.Num.D) (by omega)]
  have hE : (if dZero.Exp < x.Exp then x.Exp else dZero.Exp) = x.Exp := by
    show (if (0 : Int) < x.Exp then x.Exp else 0) = x.Exp
    split <;> omega
  have hst : F_impl_raised x x.Exp = some (x.Num, true) := by
    refine raised_of (e := x.Exp) ?_
    have := impl_raise_step (E := x.Exp) h1 h2 h3 true
    simp only [Int.lt_irrefl, decide_false, Bool.false_and, cond_false] at this
    rw [show fuel = (fuel - 1) + 1 from rfl]; simp only [whX, this, Option.bind_some]
  have hz : F_impl_raised dZero x.Exp = some (rZero, true) := raised_of (x := dZero) (raise_zero h3 fuel 0 (by omega) h2 (fuel_big (by omega)))
  have hc := comb_add dZero_ok h hE hz hst rZero_ok h1
  rw [e, h1] at hc
  simp only [Bool.and_self, cond_true, low_id h] at hc
  unfold DA
  rw [hc]; rfl
def okD (l : List TDyadic) : Prop := ∀ z ∈ l, dOk z = true
theorem okD_snoc {l : List TDyadic} {z : TDyadic} (hl : okD l) (hz : dOk z = true) : okD (l ++ [z]) := fun x hx => by
  rcases List.mem_append.1 hx with h | h
  · exact hl x h
  · simp only [List.mem_singleton] at h; subst h; exact hz
theorem dy_eq (x y : TDyadic) : (((x.Num.A == y.Num.A) && ((x.Num.B == y.Num.B) && ((x.Num.C == y.Num.C) && ((x.Num.D == y.Num.D) && true)))) && ((x.Exp == y.Exp) && true)) = decide (x = y) := by
  obtain ⟨⟨A, B, C, D⟩, e⟩ := x
  obtain ⟨⟨A', B', C', D'⟩, e'⟩ := y
  rw [Bool.eq_iff_iff]
  simp only [Bool.and_true, Bool.and_eq_true, beq_iff_eq, decide_eq_true_eq, TDyadic.mk.injEq, TRing.mk.injEq]
theorem bs {α : Type} {b : Bool} {x y : α} : (bif b then some x else some y) = some (bif b then x else y) := by cases b <;> rfl
theorem forX_same {α ρ : Type} [DecidableEq α] {f : Nat → Unit → Option (Ex Unit ρ)} {l l' : List α} {q : ρ} (hl : l.length = l'.length)
    (hf : ∀ i x y, l[i]? = some x → l'[i]? = some y → f i () = some (bif !decide (x = y) then .rt q else .nx ())) : forX f l.length 0 () = some (if l = l' then .inl () else .inr q) := by
  rcases forX_inv (f := f) (fun j _ => ∀ i, i < j → l[i]? = l'[i]?) (fun r => r = q ∧ l ≠ l') l.length 0 () (fun i hi => absurd hi (Nat.not_lt_zero _)) (fun j s _ hj hI => by
    have hj : j < l.length := by omega
    have h := hf j _ _ (List.getElem?_eq_getElem hj) (List.getElem?_eq_getElem (show j < l'.length by omega))
    by_cases he : l[j] = l'[j]'(by omega)
    · rw [decide_eq_true he] at h
      refine .inl ⟨(), h, fun i hi => ?_⟩
      rcases Nat.lt_succ_iff_lt_or_eq.1 hi with h' | rfl
      · exact hI i h'
      · rw [List.getElem?_eq_getElem hj, List.getElem?_eq_getElem (show i < l'.length by omega), he]
    · rw [decide_eq_false he] at h
      exact .inr ⟨q, h, rfl, fun e => he (by subst e; rfl)⟩) with ⟨⟨⟩, h1, h2⟩ | ⟨r, h1, rfl, h2⟩
  · rw [h1, if_pos]
    apply List.ext_getElem?
    intro i
    by_cases hi : i < l.length
    · exact h2 i (by omega)
    · rw [List.getElem?_eq_none (by omega), List.getElem?_eq_none (by omega)]
  · rw [h1, if_neg h2]
def dOne : TDyadic := TDyadic.mk (TRing.mk 1 0 0 0) 0
theorem l2p0 : F_spec_l2Power 0 = some dOne := by
  unfold F_spec_l2Power F_spec_l1Turn
  rw [show fuel = (fuel - 1) + 1 from rfl]
  rfl
theorem index_eq {l : List TDyadic} {f : TDyadic → Option Bool} {p : TDyadic → Bool} (hl : l.length ≤ 9223372036854775807) (hf : ∀ x, f x = some (p x)) :
    ∃ i, F_slices_IndexFunc_impl_Dyadic_impl_Dyadic l f = some i ∧ decide (0 ≤ i) = l.any p := by
  unfold F_slices_IndexFunc_impl_Dyadic_impl_Dyadic
  rw [chk_t hl]
  rcases forX_any (f := F_slices_IndexFunc_impl_Dyadic_impl_Dyadic_l1 l f) (l := l) (p := p) (q := fun i => (i : Int)) (fun i x hx => by
    unfold F_slices_IndexFunc_impl_Dyadic_impl_Dyadic_l1
    simp only [getI_nat, hx, Option.bind_some, hf, bs]) with ⟨h1, h2⟩ | ⟨h1, i, _, h2⟩
  · rw [h2, h1]; exact ⟨-1, rfl, by decide⟩
  · rw [h2, h1]; exact ⟨i, rfl, by simp⟩
theorem contains_eq {l : List TDyadic} {f : TDyadic → Option Bool} {p : TDyadic → Bool} (hl : l.length ≤ 9223372036854775807) (hf : ∀ x, f x = some (p x)) :
    F_slices_ContainsFunc_impl_Dyadic_impl_Dyadic l f = some (l.any p) := by
  unfold F_slices_ContainsFunc_impl_Dyadic_impl_Dyadic
  obtain ⟨i, h1, h2⟩ := index_eq hl hf
  rw [h1]; simp only [Option.bind_some, h2]
theorem any_not_all {l : List TDyadic} {p : TDyadic → Bool} : (l.any fun x => !p x) = !l.all p := by
  induction l with
  | nil => rfl
  | cons x l ih => simp only [List.any_cons, List.all_cons, ih, Bool.not_and]
def mbCell (a b : List TDyadic) (i j : Nat) : Option TDyadic := forN (dotS (fun k => a.getD (3 * i + k) dZero) (fun k => b.getD (3 * k + j) dZero)) 3 0 dZero
def mbRow (a b : List TDyadic) (i : Nat) (l : List TDyadic) : Option (List TDyadic) := forN (fun j l => (mbCell a b i j).bind fun z => some (l ++ [z])) 3 0 l
def mbO (a b : List TDyadic) : Option (List TDyadic) := forN (mbRow a b) 3 0 []
theorem sp_bloch {a b : TBloch} (ha : okD a.Cells) (hb : okD b.Cells) (la : a.Cells.length = 9) (lb : b.Cells.length = 9) (c : Bool) :
    ∃ x c', F_spec_l2C_bloch (cB c) a b = some (x, cB c') ∧ SR (fun x => okD x.Cells ∧ x.Cells.length = 9) ((mbO a.Cells b.Cells).map TBloch.mk) c x c' := by
  have l3 : ∀ (i j : Nat) (Cells : List TDyadic) (bad b0 : Bool), i < 3 → j < 3 → ∃ z b', forN (F_spec_l2C_bloch_l3 a Cells i b j bad) 3 0 (sT b0 dZero) = some (sT b' z) ∧ SR (fun z => dOk z = true) (mbCell a.Cells b.Cells i j) b0 z b' := fun i j Cells bad b0 hi hj => by
    refine sr_it (enc := sT) (G := fun _ z => dOk z = true) (n := 3) (fun k b1 s hk hs => ?_) 3 0 dZero b0 (by omega) dZero_ok
    obtain ⟨z, b', h1, h2⟩ := dot_spec (X := fun k => a.Cells.getD (3 * i + k) dZero) (Y := fun k => b.Cells.getD (3 * k + j) dZero) (fun _ => getD_ok ha _) (fun _ => getD_ok hb _) k b1 s hs
    refine ⟨z, b', ?_, h2⟩
    rw [← h1]
    unfold F_spec_l2C_bloch_l3 sT
    simp only
    rw [wr (a := 3 * (i : Int)) (by omega), wr (a := 3 * (k : Int)) (by omega), wr (a := 3 * (i : Int) + k) (by omega), wr (a := 3 * (k : Int) + j) (by omega),
      gI (n := 3 * i + k) (by omega) (by omega), gI (n := 3 * k + j) (by omega) (by omega)]
    rfl
  have l2 : ∀ (i : Nat) (Cells : List TDyadic) (bad b0 : Bool) (l : List TDyadic), i < 3 → okD l → l.length = 3 * i → ∃ z b', forN (F_spec_l2C_bloch_l2 a Cells i b bad) 3 0 (b0, l) = some (b', z) ∧ SR (fun z => okD z ∧ z.length = 3 * i + 3) (mbRow a.Cells b.Cells i l) b0 z b' := fun i Cells bad b0 l hi hl hll => by
    have := sr_it (f := F_spec_l2C_bloch_l2 a Cells i b bad) (enc := fun b (l : List TDyadic) => (b, l)) (G := fun j z => okD z ∧ z.length = 3 * i + j) (st := fun j l => (mbCell a.Cells b.Cells i j).bind fun z => some (l ++ [z])) (n := 3) (fun j b1 s hj hs => ?_) 3 0 l b0 (by omega) ⟨hl, by omega⟩
    · rw [Nat.zero_add] at this; exact this
    · obtain ⟨z, b', h1, h2⟩ := l3 i j Cells bad b1 hi hj
      refine ⟨s ++ [z], b', ?_, h2.bind (SR.pure ⟨okD_snoc hs.1 h2.1, by simp; omega⟩)⟩
      unfold F_spec_l2C_bloch_l2
      simp only
      rw [show forN (F_spec_l2C_bloch_l3 a Cells i b j bad) 3 0 (b1, 0, 0, 0, 0, 0) = _ from h1]
      simp only [sT, Option.bind_some]
      rw [chk_t (by omega)]
  have l1 := sr_it (f := F_spec_l2C_bloch_l1 a b) (enc := fun b (l : List TDyadic) => (b, l)) (G := fun i z => okD z ∧ z.length = 3 * i) (st := mbRow a.Cells b.Cells) (n := 3) (fun i b1 s hi hs => by
    obtain ⟨z, b', h1, h2⟩ := l2 i s b1 b1 s hi hs.1 hs.2
    refine ⟨z, b', ?_, h2.mono (fun h => ⟨h.1, by omega⟩)⟩
    unfold F_spec_l2C_bloch_l1
    simp only
    rw [h1]; rfl) 3 0 [] c (by omega) ⟨fun _ h => (by cases h), rfl⟩
  obtain ⟨z, b', h1, h2⟩ := l1
  refine ⟨TBloch.mk z, b', ?_, h2.map TBloch.mk (fun h => ⟨h.1, h.2⟩)⟩
  unfold F_spec_l2C_bloch
  rw [show forN (F_spec_l2C_bloch_l1 a b) 3 0 ((cB c).bad, []) = _ from h1]
  rfl
def lR (o : Option (List TDyadic)) : List TDyadic × Bool := match o with | some l => (l, true) | none => ([], false)
theorem im_bloch {a b : List TDyadic} (ha : okD a) (hb : okD b) (la : a.length = 9) (lb : b.length = 9) :
    F_impl_mulBloch a b = some (lR (mbO a b)) ∧ ∀ l, mbO a b = some l → okD l ∧ l.length = 9 := by
  have l3 : ∀ (i j : Nat), i < 3 → j < 3 → forX (F_impl_mulBloch_l3 a i b j) 3 0 (iT dZero) = some (exO iT (.rt (.rt ([], false))) (mbCell a b i j)) ∧ ∀ z, mbCell a b i j = some z → dOk z = true := fun i j hi hj => by
    refine im_it (g := F_impl_mulBloch_l3 a i b j) (enc := iT) (G := fun _ z => dOk z = true) (n := 3) (fun k s hk hs => ?_) 3 0 dZero (by omega) dZero_ok
    have := dot_impl (X := fun k => a.getD (3 * i + k) dZero) (Y := fun k => b.getD (3 * k + j) dZero) (fun _ => getD_ok ha _) (fun _ => getD_ok hb _) (Ex.rt (σ := List TDyadic) (Ex.rt (σ := List TDyadic) (([] : List TDyadic), false))) k s hs
    refine ⟨?_, this.2⟩
    rw [← this.1]
    unfold F_impl_mulBloch_l3 iT
    simp only
    rw [wr (a := 3 * (i : Int)) (by omega), wr (a := 3 * (k : Int)) (by omega), wr (a := 3 * (i : Int) + k) (by omega), wr (a := 3 * (k : Int) + j) (by omega),
        gI (n := 3 * i + k) (by omega) (by omega), gI (n := 3 * k + j) (by omega) (by omega)]
    rfl
  have l2 : ∀ (i : Nat) (l : List TDyadic), i < 3 → okD l → l.length = 3 * i → forX (F_impl_mulBloch_l2 a i b) 3 0 l = some (exO id (.rt ([], false)) (mbRow a b i l)) ∧ ∀ z, mbRow a b i l = some z → okD z ∧ z.length = 3 * i + 3 := fun i l hi hl hll => by
    refine im_it (g := F_impl_mulBloch_l2 a i b) (enc := id) (G := fun j z => okD z ∧ z.length = 3 * i + j) (n := 3) (fun j s hj hs => ?_) 3 0 l (by omega) ⟨hl, by omega⟩
    obtain ⟨h1, h2⟩ := l3 i j hi hj
    unfold F_impl_mulBloch_l2
    simp only [id]
    rw [show forX (F_impl_mulBloch_l3 a i b j) 3 0 (0, 0, 0, 0, 0) = _ from h1]
    cases hc : mbCell a b i j with
    | none => exact ⟨rfl, fun z hz => by cases hz⟩
    | some z =>
      simp only [exO, iT, Option.bind_some, orR]
      rw [chk_t (by omega)]
      exact ⟨rfl, fun z' hz => by cases hz; exact ⟨okD_snoc hs.1 (h2 z hc), by simp; omega⟩⟩
  obtain ⟨h1, h2⟩ := im_it (g := F_impl_mulBloch_l1 a b) (enc := id) (G := fun i z => okD z ∧ z.length = 3 * i) (st := mbRow a b) (R := (([] : List TDyadic), false)) (n := 3) (fun i s hi hs => by
    obtain ⟨h1, h2⟩ := l2 i s hi hs.1 hs.2
    unfold F_impl_mulBloch_l1
    simp only [id]
    rw [h1]
    cases hc : mbRow a b i s with
    | none => exact ⟨rfl, fun z hz => by cases hz⟩
    | some z => exact ⟨rfl, fun z' hz => by cases hz; obtain ⟨q1, q2⟩ := h2 z hc; exact ⟨q1, by omega⟩⟩) 3 0 [] (by omega) ⟨fun _ h => (by cases h), rfl⟩
  refine ⟨?_, fun l hl => h2 l hl⟩
  unfold F_impl_mulBloch
  rw [show forX (F_impl_mulBloch_l1 a b) 3 0 [] = _ from h1]
  unfold mbO
  cases forN (mbRow a b) 3 0 [] <;> rfl

def minO (p q r s : TDyadic) : Option TDyadic := (DM p s).bind fun x => (DM q r).bind fun y => DA x (dNeg y)
theorem sr_minor {b : TBloch} (hb : okD b.Cells) (lb : b.Cells.length = 9) {j k : Nat} (hj : j < 3) (hk : k < 3) (c : Bool) :
    ∃ z c', F_spec_l2C_minor (cB c) b j k = some (z, cB c') ∧ SR (fun z => dOk z = true) (minO (b.Cells.getD (3 + j) dZero) (b.Cells.getD (3 + k) dZero) (b.Cells.getD (6 + j) dZero) (b.Cells.getD (6 + k) dZero)) c z c' := by
  obtain ⟨x, c1, h1, g1⟩ := srM (getD_ok hb (3 + j)) (getD_ok hb (6 + k)) c
  obtain ⟨y, c2, h2, g2⟩ := srM (getD_ok hb (3 + k)) (getD_ok hb (6 + j)) c1
  obtain ⟨z, c3, h3, g3⟩ := srA g1.1 (neg_dok g2.1) c2
  refine ⟨z, c3, ?_, g1.bind (g2.bind g3)⟩
  unfold F_spec_l2C_minor
  rw [wr (a := 3 + (j : Int)) (by omega), wr (a := 6 + (k : Int)) (by omega), wr (a := 3 + (k : Int)) (by omega), wr (a := 6 + (j : Int)) (by omega),
    gI (n := 3 + j) (by omega) (by omega), gI (n := 6 + k) (by omega) (by omega), gI (n := 3 + k) (by omega) (by omega), gI (n := 6 + j) (by omega) (by omega)]
  simp only [Option.bind_some, h1, h2, spec_neg (d_parts g2.1).1, h3]
theorem im_minor {p q r s : TDyadic} (hp : dOk p = true) (hq : dOk q = true) (hr : dOk r = true) (hs : dOk s = true) :
    ∃ o, F_impl_minor p q r s = some (o, (minO p q r s).isSome) ∧ dOk o = true ∧ ∀ z, minO p q r s = some z → o = z := by
  unfold F_impl_minor minO
  rw [imM hp hs, imM hq hr]
  have o1 : dOk (dR (DM p s)).1 = true := dR_ok (fun z hz => dm_ok hp hs hz)
  have o2 : dOk (dR (DM q r)).1 = true := dR_ok (fun z hz => dm_ok hq hr hz)
  simp only [Option.bind_some]
  rw [imS o1 o2]
  have o3 : dOk (dR (DA (dR (DM p s)).1 (dNeg (dR (DM q r)).1))).1 = true := dR_ok (fun z hz => da_ok o1 (neg_dok o2) hz)
  refine ⟨_, ?_, o3, ?_⟩
  · simp only [Option.bind_some]
    cases DM p s with
    | none => rfl
    | some x =>
      cases DM q r with
      | none => rfl
      | some y => simp only [dR, Option.bind_some]; cases DA x (dNeg y) <;> rfl
  · intro z hz
    cases h1 : DM p s with
    | none => rw [h1] at hz; cases hz
    | some x =>
      cases h2 : DM q r with
      | none => rw [h1, h2] at hz; cases hz
      | some y =>
        rw [h1, h2] at hz
        simp only [Option.bind_some] at hz
        simp only [dR, hz]
/-- The determinant of nine numbers. -/
def detO (l : List TDyadic) : Option TDyadic :=
  (minO (l.getD 4 dZero) (l.getD 5 dZero) (l.getD 7 dZero) (l.getD 8 dZero)).bind fun m0 => (DM (l.getD 0 dZero) m0).bind fun x0 =>
  (minO (l.getD 3 dZero) (l.getD 5 dZero) (l.getD 6 dZero) (l.getD 8 dZero)).bind fun m1 => (DM (l.getD 1 dZero) m1).bind fun x1 => (DA x0 (dNeg x1)).bind fun s1 =>
  (minO (l.getD 3 dZero) (l.getD 4 dZero) (l.getD 6 dZero) (l.getD 7 dZero)).bind fun m2 => (DM (l.getD 2 dZero) m2).bind fun x2 => DA s1 x2
theorem min_ok {p q r s z : TDyadic} (hp : dOk p = true) (hq : dOk q = true) (hr : dOk r = true) (hs : dOk s = true) (h : minO p q r s = some z) : dOk z = true := by
  obtain ⟨o, _, h2, h3⟩ := im_minor hp hq hr hs
  rw [← h3 z h]; exact h2
/-- One round of the program's determinant. -/
def detS (l : List TDyadic) (k : Nat) (s : TDyadic) : Option TDyadic :=
  (minO (l.getD (if k = 0 then 4 else 3) dZero) (l.getD (if k = 2 then 4 else 5) dZero) (l.getD (if k = 0 then 7 else 6) dZero) (l.getD (if k = 2 then 7 else 8) dZero)).bind fun m => (DM (l.getD k dZero) m).bind fun x => if k = 1 then DA s (dNeg x) else DA s x
theorem det_rest {l : List TDyadic} (ll : l.length = 9) {k : Nat} (hk : k < 3) :
    forN (F_impl_determinant_l2 k l) 3 0 [] = some [l.getD (if k = 0 then 4 else 3) dZero, l.getD (if k = 0 then 7 else 6) dZero, l.getD (if k = 2 then 4 else 5) dZero, l.getD (if k = 2 then 7 else 8) dZero] := by
  obtain ⟨x0, x1, x2, x3, x4, x5, x6, x7, x8, rfl⟩ : ∃ x0 x1 x2 x3 x4 x5 x6 x7 x8, l = [x0, x1, x2, x3, x4, x5, x6, x7, x8] := by
    match l, ll with
    | [x0, x1, x2, x3, x4, x5, x6, x7, x8], _ => exact ⟨_, _, _, _, _, _, _, _, _, rfl⟩
  have : k = 0 ∨ k = 1 ∨ k = 2 := by omega
  rcases this with rfl | rfl | rfl <;> rfl
theorem im_det {l : List TDyadic} (hl : okD l) (ll : l.length = 9) : F_impl_determinant l = some (dR (detO l)) ∧ ∀ z, detO l = some z → dOk z = true := by
  obtain ⟨h1, h2⟩ := im_it (g := F_impl_determinant_l1 l) (enc := iT) (G := fun _ z => dOk z = true) (st := detS l) (R := (dZero, false)) (n := 3) (fun k s hk hs => by
    have ok := fun n => getD_ok hl n
    obtain ⟨o, e1, e2, e3⟩ := im_minor (ok (if k = 0 then 4 else 3)) (ok (if k = 2 then 4 else 5)) (ok (if k = 0 then 7 else 6)) (ok (if k = 2 then 7 else 8))
    have hg : getI l (k : Int) = some (l.getD k dZero) := gI rfl (by omega)
    unfold F_impl_determinant_l1 iT
    simp only
    rw [det_rest ll hk]
    simp only [Option.bind_some]
    have q0 : ∀ (a b c d : TDyadic), getI [a, b, c, d] 0 = some a := fun _ _ _ _ => rfl
    have q1 : ∀ (a b c d : TDyadic), getI [a, b, c, d] 1 = some b := fun _ _ _ _ => rfl
    have q2 : ∀ (a b c d : TDyadic), getI [a, b, c, d] 2 = some c := fun _ _ _ _ => rfl
    have q3 : ∀ (a b c d : TDyadic), getI [a, b, c, d] 3 = some d := fun _ _ _ _ => rfl
    rw [q0, q1, q2, q3, hg]
    simp only [Option.bind_some, e1]
    rw [imM (ok k) e2]
    have o1 : dOk (dR (DM (l.getD k dZero) o)).1 = true := dR_ok (fun z hz => dm_ok (ok k) e2 hz)
    simp only [Option.bind_some]
    rw [show (TDyadic.mk (TRing.mk s.Num.A s.Num.B s.Num.C s.Num.D) s.Exp) = s from rfl, imS hs o1, imA hs o1]
    unfold detS
    simp only [Option.bind_some]
    cases hm : minO (l.getD (if k = 0 then 4 else 3) dZero) (l.getD (if k = 2 then 4 else 5) dZero) (l.getD (if k = 0 then 7 else 6) dZero) (l.getD (if k = 2 then 7 else 8) dZero) with
    | none =>
      refine ⟨?_, fun z hz => by cases hz⟩
      simp only [Option.isSome_none, Bool.not_false, Bool.true_or, cond_true, Option.bind_none]
      cases ((k : Int) == 1) <;> rfl
    | some m =>
      have := e3 m hm
      subst this
      simp only [Option.isSome_some, Bool.not_true, Bool.false_or, Option.bind_some]
      cases hx : DM (l.getD k dZero) o with
      | none =>
        refine ⟨?_, fun z hz => by cases hz⟩
        simp only [dR, Bool.not_false, Bool.true_or, cond_true, Option.bind_none]
        cases ((k : Int) == 1) <;> rfl
      | some x =>
        rw [hx] at o1
        simp only [dR, Bool.not_true, Bool.false_or, Option.bind_some] at o1 ⊢
        by_cases h1 : k = 1
        · have e : ((k : Int) == 1) = true := by simp [h1]
          rw [e, if_pos h1]
          simp only [cond_true]
          cases ha : DA s (dNeg x) with
          | none => exact ⟨rfl, fun z hz => by cases hz⟩
          | some z => exact ⟨rfl, fun z' hz => by cases hz; exact da_ok hs (neg_dok o1) ha⟩
        · have e : ((k : Int) == 1) = false := by simp; omega
          rw [e, if_neg h1]
          simp only [cond_false]
          cases ha : DA s x with
          | none => exact ⟨rfl, fun z hz => by cases hz⟩
          | some z => exact ⟨rfl, fun z' hz => by cases hz; exact da_ok hs o1 ha⟩) 3 0 dZero (by omega) dZero_ok
  have e : forN (detS l) 3 0 dZero = detO l := by
    have ok := fun n => getD_ok hl n
    simp only [forN, detS, detO]
    simp only [show (0 : Nat) + 1 = 1 from rfl, show (1 : Nat) + 1 = 2 from rfl, show (0 : Nat) = 0 from rfl, if_true, show ((0 : Nat) = 2) = False from by simp, show ((1 : Nat) = 0) = False from by simp, show ((1 : Nat) = 2) = False from by simp, show ((2 : Nat) = 0) = False from by simp, show ((2 : Nat) = 1) = False from by simp, show ((0 : Nat) = 1) = False from by simp, if_false]
    cases hm : minO (l.getD 4 dZero) (l.getD 5 dZero) (l.getD 7 dZero) (l.getD 8 dZero) with
    | none => rfl
    | some m0 =>
      simp only [Option.bind_some]
      cases hx : DM (l.getD 0 dZero) m0 with
      | none => rfl
      | some x0 =>
        simp only [Option.bind_some, zero_add (dm_ok (ok 0) (min_ok (ok 4) (ok 5) (ok 7) (ok 8) hm) hx)]
        cases minO (l.getD 3 dZero) (l.getD 5 dZero) (l.getD 6 dZero) (l.getD 8 dZero) with
        | none => rfl
        | some m1 =>
          simp only [Option.bind_some]
          cases DM (l.getD 1 dZero) m1 with
          | none => rfl
          | some x1 =>
            simp only [Option.bind_some]
            cases DA x0 (dNeg x1) with
            | none => rfl
            | some s1 =>
              simp only [Option.bind_some]
              cases minO (l.getD 3 dZero) (l.getD 4 dZero) (l.getD 6 dZero) (l.getD 7 dZero) with
              | none => rfl
              | some m2 =>
                simp only [Option.bind_some]
                cases DM (l.getD 2 dZero) m2 with
                | none => rfl
                | some x2 =>
                  simp only [Option.bind_some]
                  cases DA s1 x2 <;> rfl
  rw [e] at h1 h2
  refine ⟨?_, fun z hz => h2 z hz⟩
  unfold F_impl_determinant
  rw [show forX (F_impl_determinant_l1 l) 3 0 (0, 0, 0, 0, 0) = _ from h1]
  cases detO l <;> rfl

def realB (x : TDyadic) : Bool := dOk x && (x.Num.C == 0) && (x.Num.D == IntKind.i64.wrap (-x.Num.B))
def turn9 (l : List TDyadic) : List TDyadic := [l.getD 0 dZero, l.getD 3 dZero, l.getD 6 dZero, l.getD 1 dZero, l.getD 4 dZero, l.getD 7 dZero, l.getD 2 dZero, l.getD 5 dZero, l.getD 8 dZero]
def unit9 : List TDyadic := [dOne, dZero, dZero, dZero, dOne, dZero, dZero, dZero, dOne]
/-- Whether nine numbers are taken. -/
def bvO (l : List TDyadic) : Bool := decide (l.length = 9) && l.all realB && (match mbO l (turn9 l), detO l with | some p, some d => decide (p = unit9) && decide (d = dOne) | _, _ => false)
theorem nine {l : List TDyadic} (ll : l.length = 9) : ∃ x0 x1 x2 x3 x4 x5 x6 x7 x8, l = [x0, x1, x2, x3, x4, x5, x6, x7, x8] := by
  match l, ll with
  | [x0, x1, x2, x3, x4, x5, x6, x7, x8], _ => exact ⟨_, _, _, _, _, _, _, _, _, rfl⟩
theorem spec_turn {b : TBloch} (lb : b.Cells.length = 9) : F_spec_l9Turn b = some (TBloch.mk (turn9 b.Cells)) := by
  obtain ⟨l⟩ := b
  obtain ⟨x0, x1, x2, x3, x4, x5, x6, x7, x8, rfl⟩ := nine lb
  rfl
theorem impl_turn {l : List TDyadic} (ll : l.length = 9) : F_impl_transposed l = some (turn9 l) := by
  obtain ⟨x0, x1, x2, x3, x4, x5, x6, x7, x8, rfl⟩ := nine ll
  rfl
theorem turn_ok {l : List TDyadic} (h : okD l) : okD (turn9 l) := fun z hz => by
  simp only [turn9, List.mem_cons, List.not_mem_nil, or_false] at hz
  rcases hz with rfl | rfl | rfl | rfl | rfl | rfl | rfl | rfl | rfl <;> exact getD_ok h _
theorem spec_unit : F_spec_l9Unit = some (TBloch.mk unit9) := by
  unfold F_spec_l9Unit
  simp only [forN, F_spec_l9Unit_l1, l2p0, Option.bind_some]
  rfl
theorem spec_same {a b : TBloch} (ha : a.Cells.length = 9) (hb : b.Cells.length = 9) : F_spec_l9Same a b = some (decide (a.Cells = b.Cells)) := by
  unfold F_spec_l9Same
  rw [chk_t (by omega), forX_same (f := F_spec_l9Same_l1 a b) (l := a.Cells) (l' := b.Cells) (q := false) (by omega) (fun i x y hx hy => by
    unfold F_spec_l9Same_l1
    simp only [getI_nat, hx, hy, Option.bind_some, dy_eq, bs])]
  by_cases h : a.Cells = b.Cells
  · rw [if_pos h, decide_eq_true h]; rfl
  · rw [if_neg h, decide_eq_false h]; rfl
theorem real_ok {l : List TDyadic} (h : l.all realB = true) : okD l := fun z hz => by
  have := List.all_eq_true.1 h z hz
  unfold realB at this
  simp only [Bool.and_eq_true] at this
  exact this.1.1
theorem spec_det {b : TBloch} (hb : okD b.Cells) (lb : b.Cells.length = 9) (c : Bool) (k : TDyadic × Tl2C → Option Bool) :
    ∃ d c', ((getI b.Cells 0).bind fun x1 => (F_spec_l2C_minor (cB c) b 1 2).bind fun (r_4, m1) => (F_spec_l2C_mul m1 x1 r_4).bind fun (r_5, m2) => (getI b.Cells 1).bind fun x2 =>
      (F_spec_l2C_minor m2 b 0 2).bind fun (r_6, m3) => (F_spec_l2C_mul m3 x2 r_6).bind fun (r_7, m4) => (F_spec_l2Neg r_7).bind fun r_8 => (F_spec_l2C_add m4 r_5 r_8).bind fun (r_9, m5) =>
      (getI b.Cells 2).bind fun x3 => (F_spec_l2C_minor m5 b 0 1).bind fun (r_10, m6) => (F_spec_l2C_mul m6 x3 r_10).bind fun (r_11, m7) => (F_spec_l2C_add m7 r_9 r_11).bind k) = k (d, cB c') ∧
      SR (fun z => dOk z = true) (detO b.Cells) c d c' := by
  have ok := fun n => getD_ok hb n
  obtain ⟨a0, c1, e1, g1⟩ := sr_minor hb lb (j := 1) (k := 2) (by decide) (by decide) c
  obtain ⟨a1, c2, e2, g2⟩ := srM (ok 0) g1.1 c1
  obtain ⟨a2, c3, e3, g3⟩ := sr_minor hb lb (j := 0) (k := 2) (by decide) (by decide) c2
  obtain ⟨a3, c4, e4, g4⟩ := srM (ok 1) g3.1 c3
  obtain ⟨a4, c5, e5, g5⟩ := srA g2.1 (neg_dok g4.1) c4
  obtain ⟨a5, c6, e6, g6⟩ := sr_minor hb lb (j := 0) (k := 1) (by decide) (by decide) c5
  obtain ⟨a6, c7, e7, g7⟩ := srM (ok 2) g6.1 c6
  obtain ⟨a7, c8, e8, g8⟩ := srA g5.1 g7.1 c7
  refine ⟨a7, c8, ?_, ?_⟩
  · have i0 : getI b.Cells 0 = some (b.Cells.getD 0 dZero) := gI (n := 0) rfl (by omega)
    have i1 : getI b.Cells 1 = some (b.Cells.getD 1 dZero) := gI (n := 1) rfl (by omega)
    have i2 : getI b.Cells 2 = some (b.Cells.getD 2 dZero) := gI (n := 2) rfl (by omega)
    rw [i0, i1, i2]
    simp only [Option.bind_some]
    rw [show F_spec_l2C_minor (cB c) b 1 2 = _ from e1]
    simp only [Option.bind_some]
    rw [e2]
    simp only [Option.bind_some]
    rw [show F_spec_l2C_minor (cB c2) b 0 2 = _ from e3]
    simp only [Option.bind_some]
    rw [e4]
    simp only [Option.bind_some]
    rw [spec_neg (d_parts g4.1).1]
    simp only [Option.bind_some]
    rw [e5]
    simp only [Option.bind_some]
    rw [show F_spec_l2C_minor (cB c5) b 0 1 = _ from e6]
    simp only [Option.bind_some]
    rw [e7]
    simp only [Option.bind_some]
    rw [e8]
    rfl
  · unfold detO
    exact g1.bind (g2.bind (g3.bind (g4.bind (g5.bind (g6.bind (g7.bind g8))))))
theorem spec_valid (b : TBloch) : F_spec_l9Valid b = some (bvO b.Cells) := by
  unfold F_spec_l9Valid bvO
  by_cases ll : b.Cells.length = 9
  · have e9 : ((b.Cells.length : Int) != 9) = false := by simp [ll]
    rw [e9, cond_false, chk_t (by omega), decide_eq_true ll]
    rcases forX_any (f := F_spec_l9Valid_l1 b) (l := b.Cells) (p := fun x => !realB x) (q := fun _ => false) (fun i x hx => by
      unfold F_spec_l9Valid_l1
      simp only [getI_nat, hx, Option.bind_some, spec_dyadic]
      have : (((!dOk x) || (x.Num.C != 0)) || (x.Num.D != (IntKind.i64.wrap (-x.Num.B)))) = !realB x := by unfold realB; simp only [bne, Bool.not_and]
      rw [this, bs]) with ⟨h1, h2⟩ | ⟨h1, i, _, h2⟩
    · rw [h2]
      simp only [Option.bind_some, orR]
      have hreal : b.Cells.all realB = true := by
        rw [List.all_eq_true]; intro x hx
        have := List.any_eq_false.1 h1 x hx
        simpa using this
      have hb := real_ok hreal
      rw [hreal, spec_turn ll]
      simp only [Option.bind_some, Bool.and_self, Bool.true_and]
      obtain ⟨x, c1, e1, g1⟩ := sp_bloch (a := b) (b := TBloch.mk (turn9 b.Cells)) hb (turn_ok hb) ll rfl false
      rw [show F_spec_l2C_bloch (Tl2C.mk false) b (TBloch.mk (turn9 b.Cells)) = _ from e1]
      simp only [Option.bind_some]
      obtain ⟨d, c2, e2, g2⟩ := spec_det hb ll c1 (fun (r_12, m8) => bif (!m8.bad) then ((F_spec_l9Unit).bind fun r_13 =>
        (F_spec_l9Same x r_13).bind fun r_14 =>
        (gb r_14 (TDyadic.mk (TRing.mk 0 0 0 0) 0) (F_spec_l2Power 0)).bind fun r_15 =>
        some ((r_14 && (((r_12.Num.A == r_15.Num.A) && ((r_12.Num.B == r_15.Num.B) && ((r_12.Num.C == r_15.Num.C) && ((r_12.Num.D == r_15.Num.D) && true)))) && ((r_12.Exp == r_15.Exp) && true))))) else ((gb false (TDyadic.mk (TRing.mk 0 0 0 0) 0) (F_spec_l2Power 0)).bind fun r_16 =>
        some ((false && (((r_12.Num.A == r_16.Num.A) && ((r_12.Num.B == r_16.Num.B) && ((r_12.Num.C == r_16.Num.C) && ((r_12.Num.D == r_16.Num.D) && true)))) && ((r_12.Exp == r_16.Exp) && true))))))
      refine Eq.trans e2 ?_
      simp only
      rcases g1.good with ⟨p1, rfl⟩ | ⟨p1, rfl⟩
      · rcases g2.good with ⟨p2, rfl⟩ | ⟨p2, rfl⟩
        · have hx : mbO b.Cells (turn9 b.Cells) = some x.Cells := by
            obtain ⟨l, h, rfl⟩ := Option.map_eq_some_iff.1 p1; exact h
          rw [hx, p2]
          rw [show (cB false).bad = false from rfl]
          simp only [Bool.not_false, cond_true]
          rw [spec_unit]
          simp only [Option.bind_some]
          rw [spec_same g1.1.2 rfl]
          simp only [Option.bind_some, gb, l2p0]
          cases decide (x.Cells = unit9)
          · rfl
          · simp only [cond_true, Option.bind_some, dy_eq, Bool.true_and]
        · rw [p2]
          cases mbO b.Cells (turn9 b.Cells) <;> rfl
      · have := g2.bad
        subst this
        have hx : mbO b.Cells (turn9 b.Cells) = none := by simpa using p1
        rw [hx]
        rfl
    · rw [h2]
      have hreal : b.Cells.all realB = false := by
        rw [List.all_eq_false]
        obtain ⟨x, hx, hp⟩ := List.any_eq_true.1 h1
        exact ⟨x, hx, by simpa using hp⟩
      rw [hreal]
      rfl
  · have e9 : ((b.Cells.length : Int) != 9) = true := by simp; omega
    rw [e9, decide_eq_false ll]
    rfl
theorem impl_valid (b : TBloch) : F_impl_IsValidBloch b = some (bvO b.Cells) := by
  unfold F_impl_IsValidBloch bvO
  by_cases ll : b.Cells.length = 9
  · have e9 : ((b.Cells.length : Int) != 9) = false := by simp [ll]
    rw [e9, decide_eq_true ll]
    simp only [Bool.not_false, gb, cond_true, Bool.false_or, Bool.true_and]
    rw [contains_eq (p := fun x => !realB x) (by omega) (fun x => by
      unfold F_impl_IsValidBloch_1 F_impl_isReal; simp only [impl_dyadic, Option.bind_some]; rfl), any_not_all]
    simp only [Option.bind_some]
    cases hreal : b.Cells.all realB with
    | false => rfl
    | true =>
      have hb := real_ok hreal
      simp only [Bool.not_true, cond_false, Bool.true_and]
      rw [impl_turn ll]
      simp only [Option.bind_some]
      obtain ⟨i1, i2⟩ := im_bloch hb (turn_ok hb) ll (show (turn9 b.Cells).length = 9 from rfl)
      obtain ⟨d1, d2⟩ := im_det hb ll
      rw [i1, d1]
      cases hm : mbO b.Cells (turn9 b.Cells) with
      | none => rfl
      | some p =>
        cases hd : detO b.Cells with
        | none => rfl
        | some d =>
          obtain ⟨_, lp⟩ := i2 p hm
          have hw : F_impl_whole 1 = some dOne := rfl
          rw [show lR (some p) = (p, true) from rfl, show dR (some d) = (d, true) from rfl]
          simp only [Bool.not_true, Bool.or_self, Bool.not_false, cond_true, hw, Option.bind_some, Bool.false_or, dy_eq]
          by_cases h1 : d = dOne
          · rw [decide_eq_true h1]
            simp only [Bool.not_true, cond_false, Bool.and_true]
            rw [chk_t (by omega), forX_same (f := F_impl_IsValidBloch_l1 p) (l := p) (l' := unit9) (q := false) (by rw [lp]; rfl) (fun i x y hx hy => by
              have hi : i < 9 := by have := (List.getElem?_eq_some_iff.1 hx).1; omega
              have hu : ((F_impl_small ((Int.tmod (i : Int) 4) == 0)).bind fun r_8 => F_impl_whole r_8) = some y := by
                have : i = 0 ∨ i = 1 ∨ i = 2 ∨ i = 3 ∨ i = 4 ∨ i = 5 ∨ i = 6 ∨ i = 7 ∨ i = 8 := by omega
                rcases this with rfl | rfl | rfl | rfl | rfl | rfl | rfl | rfl | rfl <;> exact hy
              unfold F_impl_IsValidBloch_l1
              obtain ⟨r8, q1, q2⟩ := Option.bind_eq_some_iff.1 hu
              simp only [getI_nat, hx, q1, q2, Option.bind_some, dy_eq, bs])]
            by_cases h2 : p = unit9
            · rw [if_pos h2, decide_eq_true h2]; rfl
            · rw [if_neg h2, decide_eq_false h2]; rfl
          · rw [decide_eq_false h1]
            simp only [Bool.not_false, cond_true, Bool.and_false]
  · have e9 : ((b.Cells.length : Int) != 9) = true := by simp; omega
    rw [e9, decide_eq_false ll]
    rfl
theorem impl_leq {l l' : List TDyadic} (hl : l.length ≤ 9223372036854775807) : F_slices_Equal_impl_Dyadic_impl_Dyadic l l' = some (decide (l = l')) := by
  unfold F_slices_Equal_impl_Dyadic_impl_Dyadic
  by_cases hn : l.length = l'.length
  · have e : ((l.length : Int) != (l'.length : Int)) = false := by simp [hn]
    rw [e, cond_false, chk_t hl, forX_same (f := F_slices_Equal_impl_Dyadic_impl_Dyadic_l1 l l') (l := l) (l' := l') (q := false) hn (fun i x y hx hy => by
      unfold F_slices_Equal_impl_Dyadic_impl_Dyadic_l1
      simp only [getI_nat, hx, hy, Option.bind_some, dy_eq, bs])]
    by_cases h : l = l'
    · rw [if_pos h, decide_eq_true h]; rfl
    · rw [if_neg h, decide_eq_false h]; rfl
  · have e : ((l.length : Int) != (l'.length : Int)) = true := by simp; omega
    rw [e, decide_eq_false (fun h => hn (by rw [h]))]; rfl
def dI (n : Int) : TDyadic := TDyadic.mk (TRing.mk n 0 0 0) 0
def wordsL : List (List UInt8) := [[], [72], [83], [72, 83], [83, 72], [83, 83], [72, 83, 72], [72, 83, 83], [83, 72, 83], [83, 83, 72], [83, 83, 83], [72, 83, 72, 83], [72, 83, 83, 72], [72, 83, 83, 83], [83, 72, 83, 83], [83, 83, 72, 83], [72, 83, 72, 83, 83], [72, 83, 83, 72, 83], [83, 72, 83, 83, 72], [83, 72, 83, 83, 83], [83, 83, 72, 83, 83], [72, 83, 72, 83, 83, 72], [72, 83, 72, 83, 83, 83], [72, 83, 83, 72, 83, 83]]
def listL : List (List TDyadic) := [[dI 1, dI 0, dI 0, dI 0, dI 1, dI 0, dI 0, dI 0, dI 1], [dI 0, dI 0, dI 1, dI 0, dI (-1), dI 0, dI 1, dI 0, dI 0], [dI 0, dI (-1), dI 0, dI 1, dI 0, dI 0, dI 0, dI 0, dI 1], [dI 0, dI 1, dI 0, dI 0, dI 0, dI 1, dI 1, dI 0, dI 0], [dI 0, dI 0, dI 1, dI (-1), dI 0, dI 0, dI 0, dI (-1), dI 0], [dI (-1), dI 0, dI 0, dI 0, dI (-1), dI 0, dI 0, dI 0, dI 1], [dI 1, dI 0, dI 0, dI 0, dI 0, dI (-1), dI 0, dI 1, dI 0], [dI 0, dI 0, dI (-1), dI 0, dI 1, dI 0, dI 1, dI 0, dI 0], [dI 1, dI 0, dI 0, dI 0, dI 0, dI 1, dI 0, dI (-1), dI 0], [dI 0, dI 0, dI 1, dI 0, dI 1, dI 0, dI (-1), dI 0, dI 0], [dI 0, dI 1, dI 0, dI (-1), dI 0, dI 0, dI 0, dI 0, dI 1], [dI 0, dI 0, dI 1, dI 1, dI 0, dI 0, dI 0, dI 1, dI 0], [dI 1, dI 0, dI 0, dI 0, dI (-1), dI 0, dI 0, dI 0, dI (-1)], [dI 0, dI (-1), dI 0, dI 0, dI 0, dI (-1), dI 1, dI 0, dI 0], [dI 0, dI 0, dI (-1), dI 1, dI 0, dI 0, dI 0, dI (-1), dI 0], [dI 0, dI (-1), dI 0, dI 0, dI 0, dI 1, dI (-1), dI 0, dI 0], [dI (-1), dI 0, dI 0, dI 0, dI 0, dI 1, dI 0, dI 1, dI 0], [dI 0, dI 1, dI 0, dI 1, dI 0, dI 0, dI 0, dI 0, dI (-1)], [dI 0, dI (-1), dI 0, dI (-1), dI 0, dI 0, dI 0, dI 0, dI (-1)], [dI (-1), dI 0, dI 0, dI 0, dI 0, dI (-1), dI 0, dI (-1), dI 0], [dI 0, dI 0, dI (-1), dI 0, dI (-1), dI 0, dI (-1), dI 0, dI 0], [dI 0, dI 1, dI 0, dI 0, dI 0, dI (-1), dI (-1), dI 0, dI 0], [dI 0, dI 0, dI (-1), dI (-1), dI 0, dI 0, dI 0, dI 1, dI 0], [dI (-1), dI 0, dI 0, dI 0, dI 1, dI 0, dI 0, dI 0, dI (-1)]]
def hB : TBloch := TBloch.mk [dI 0, dI 0, dI 1, dI 0, dI (-1), dI 0, dI 1, dI 0, dI 0]
def sB : TBloch := TBloch.mk [dI 0, dI (-1), dI 0, dI 1, dI 0, dI 0, dI 0, dI 0, dI 1]
theorem gate_h : F_impl_blochGate 1 = some hB := by decide +kernel
theorem gate_s : F_impl_blochGate 5 = some sB := by decide +kernel
theorem whX_nx {σ ρ : Type} {f : σ → Option (Ex σ ρ)} {k : Nat} {s s' : σ} (h : f s = some (.nx s')) : whX f (k + 1) s = whX f k s' := by simp only [whX, h, Option.bind_some]
theorem whX_br {σ ρ : Type} {f : σ → Option (Ex σ ρ)} {k : Nat} {s s' : σ} (h : f s = some (.br s')) : whX f (k + 1) s = some (.inl s') := by simp only [whX, h, Option.bind_some]
theorem cl_of {k k' : Int} {W W' : List (List UInt8)} {L L' : List (List TDyadic)} (h : forN (F_impl_cliffordList_l3 hB sB k) 2 0 (W, L) = some (W', L')) (hk : decide (k < (W.length : Int)) = true) (hw : IntKind.i64.wrap (k + 1) = k') : F_impl_cliffordList_l2 hB sB (W, L, k) = some (.nx (W', L', k')) := by
  unfold F_impl_cliffordList_l2
  simp only [hk, cond_true, h, Option.bind_some, hw]
theorem cf_0 : forN (F_impl_cliffordList_l3 hB sB 0) 2 0 (wordsL.take 1, listL.take 1) = some (wordsL.take 3, listL.take 3) := by decide +kernel
theorem cl_0 : F_impl_cliffordList_l2 hB sB (wordsL.take 1, listL.take 1, 0) = some (.nx (wordsL.take 3, listL.take 3, 1)) := cl_of cf_0 rfl rfl
theorem cf_1 : forN (F_impl_cliffordList_l3 hB sB 1) 2 0 (wordsL.take 3, listL.take 3) = some (wordsL.take 4, listL.take 4) := by decide +kernel
theorem cl_1 : F_impl_cliffordList_l2 hB sB (wordsL.take 3, listL.take 3, 1) = some (.nx (wordsL.take 4, listL.take 4, 2)) := cl_of cf_1 rfl rfl
theorem cf_2 : forN (F_impl_cliffordList_l3 hB sB 2) 2 0 (wordsL.take 4, listL.take 4) = some (wordsL.take 6, listL.take 6) := by decide +kernel
theorem cl_2 : F_impl_cliffordList_l2 hB sB (wordsL.take 4, listL.take 4, 2) = some (.nx (wordsL.take 6, listL.take 6, 3)) := cl_of cf_2 rfl rfl
theorem cf_3 : forN (F_impl_cliffordList_l3 hB sB 3) 2 0 (wordsL.take 6, listL.take 6) = some (wordsL.take 8, listL.take 8) := by decide +kernel
theorem cl_3 : F_impl_cliffordList_l2 hB sB (wordsL.take 6, listL.take 6, 3) = some (.nx (wordsL.take 8, listL.take 8, 4)) := cl_of cf_3 rfl rfl
theorem cf_4 : forN (F_impl_cliffordList_l3 hB sB 4) 2 0 (wordsL.take 8, listL.take 8) = some (wordsL.take 9, listL.take 9) := by decide +kernel
theorem cl_4 : F_impl_cliffordList_l2 hB sB (wordsL.take 8, listL.take 8, 4) = some (.nx (wordsL.take 9, listL.take 9, 5)) := cl_of cf_4 rfl rfl
theorem cf_5 : forN (F_impl_cliffordList_l3 hB sB 5) 2 0 (wordsL.take 9, listL.take 9) = some (wordsL.take 11, listL.take 11) := by decide +kernel
theorem cl_5 : F_impl_cliffordList_l2 hB sB (wordsL.take 9, listL.take 9, 5) = some (.nx (wordsL.take 11, listL.take 11, 6)) := cl_of cf_5 rfl rfl
theorem cf_6 : forN (F_impl_cliffordList_l3 hB sB 6) 2 0 (wordsL.take 11, listL.take 11) = some (wordsL.take 12, listL.take 12) := by decide +kernel
theorem cl_6 : F_impl_cliffordList_l2 hB sB (wordsL.take 11, listL.take 11, 6) = some (.nx (wordsL.take 12, listL.take 12, 7)) := cl_of cf_6 rfl rfl
theorem cf_7 : forN (F_impl_cliffordList_l3 hB sB 7) 2 0 (wordsL.take 12, listL.take 12) = some (wordsL.take 14, listL.take 14) := by decide +kernel
theorem cl_7 : F_impl_cliffordList_l2 hB sB (wordsL.take 12, listL.take 12, 7) = some (.nx (wordsL.take 14, listL.take 14, 8)) := cl_of cf_7 rfl rfl
theorem cf_8 : forN (F_impl_cliffordList_l3 hB sB 8) 2 0 (wordsL.take 14, listL.take 14) = some (wordsL.take 15, listL.take 15) := by decide +kernel
theorem cl_8 : F_impl_cliffordList_l2 hB sB (wordsL.take 14, listL.take 14, 8) = some (.nx (wordsL.take 15, listL.take 15, 9)) := cl_of cf_8 rfl rfl
theorem cf_9 : forN (F_impl_cliffordList_l3 hB sB 9) 2 0 (wordsL.take 15, listL.take 15) = some (wordsL.take 16, listL.take 16) := by decide +kernel
theorem cl_9 : F_impl_cliffordList_l2 hB sB (wordsL.take 15, listL.take 15, 9) = some (.nx (wordsL.take 16, listL.take 16, 10)) := cl_of cf_9 rfl rfl
theorem cf_10 : forN (F_impl_cliffordList_l3 hB sB 10) 2 0 (wordsL.take 16, listL.take 16) = some (wordsL.take 16, listL.take 16) := by decide +kernel
theorem cl_10 : F_impl_cliffordList_l2 hB sB (wordsL.take 16, listL.take 16, 10) = some (.nx (wordsL.take 16, listL.take 16, 11)) := cl_of cf_10 rfl rfl
theorem cf_11 : forN (F_impl_cliffordList_l3 hB sB 11) 2 0 (wordsL.take 16, listL.take 16) = some (wordsL.take 17, listL.take 17) := by decide +kernel
theorem cl_11 : F_impl_cliffordList_l2 hB sB (wordsL.take 16, listL.take 16, 11) = some (.nx (wordsL.take 17, listL.take 17, 12)) := cl_of cf_11 rfl rfl
theorem cf_12 : forN (F_impl_cliffordList_l3 hB sB 12) 2 0 (wordsL.take 17, listL.take 17) = some (wordsL.take 18, listL.take 18) := by decide +kernel
theorem cl_12 : F_impl_cliffordList_l2 hB sB (wordsL.take 17, listL.take 17, 12) = some (.nx (wordsL.take 18, listL.take 18, 13)) := cl_of cf_12 rfl rfl
theorem cf_13 : forN (F_impl_cliffordList_l3 hB sB 13) 2 0 (wordsL.take 18, listL.take 18) = some (wordsL.take 18, listL.take 18) := by decide +kernel
theorem cl_13 : F_impl_cliffordList_l2 hB sB (wordsL.take 18, listL.take 18, 13) = some (.nx (wordsL.take 18, listL.take 18, 14)) := cl_of cf_13 rfl rfl
theorem cf_14 : forN (F_impl_cliffordList_l3 hB sB 14) 2 0 (wordsL.take 18, listL.take 18) = some (wordsL.take 20, listL.take 20) := by decide +kernel
theorem cl_14 : F_impl_cliffordList_l2 hB sB (wordsL.take 18, listL.take 18, 14) = some (.nx (wordsL.take 20, listL.take 20, 15)) := cl_of cf_14 rfl rfl
theorem cf_15 : forN (F_impl_cliffordList_l3 hB sB 15) 2 0 (wordsL.take 20, listL.take 20) = some (wordsL.take 21, listL.take 21) := by decide +kernel
theorem cl_15 : F_impl_cliffordList_l2 hB sB (wordsL.take 20, listL.take 20, 15) = some (.nx (wordsL.take 21, listL.take 21, 16)) := cl_of cf_15 rfl rfl
theorem cf_16 : forN (F_impl_cliffordList_l3 hB sB 16) 2 0 (wordsL.take 21, listL.take 21) = some (wordsL.take 23, listL.take 23) := by decide +kernel
theorem cl_16 : F_impl_cliffordList_l2 hB sB (wordsL.take 21, listL.take 21, 16) = some (.nx (wordsL.take 23, listL.take 23, 17)) := cl_of cf_16 rfl rfl
theorem cf_17 : forN (F_impl_cliffordList_l3 hB sB 17) 2 0 (wordsL.take 23, listL.take 23) = some (wordsL.take 24, listL.take 24) := by decide +kernel
theorem cl_17 : F_impl_cliffordList_l2 hB sB (wordsL.take 23, listL.take 23, 17) = some (.nx (wordsL.take 24, listL.take 24, 18)) := cl_of cf_17 rfl rfl
theorem cf_18 : forN (F_impl_cliffordList_l3 hB sB 18) 2 0 (wordsL.take 24, listL.take 24) = some (wordsL.take 24, listL.take 24) := by decide +kernel
theorem cl_18 : F_impl_cliffordList_l2 hB sB (wordsL.take 24, listL.take 24, 18) = some (.nx (wordsL.take 24, listL.take 24, 19)) := cl_of cf_18 rfl rfl
theorem cf_19 : forN (F_impl_cliffordList_l3 hB sB 19) 2 0 (wordsL.take 24, listL.take 24) = some (wordsL.take 24, listL.take 24) := by decide +kernel
theorem cl_19 : F_impl_cliffordList_l2 hB sB (wordsL.take 24, listL.take 24, 19) = some (.nx (wordsL.take 24, listL.take 24, 20)) := cl_of cf_19 rfl rfl
theorem cf_20 : forN (F_impl_cliffordList_l3 hB sB 20) 2 0 (wordsL.take 24, listL.take 24) = some (wordsL.take 24, listL.take 24) := by decide +kernel
theorem cl_20 : F_impl_cliffordList_l2 hB sB (wordsL.take 24, listL.take 24, 20) = some (.nx (wordsL.take 24, listL.take 24, 21)) := cl_of cf_20 rfl rfl
theorem cf_21 : forN (F_impl_cliffordList_l3 hB sB 21) 2 0 (wordsL.take 24, listL.take 24) = some (wordsL.take 24, listL.take 24) := by decide +kernel
theorem cl_21 : F_impl_cliffordList_l2 hB sB (wordsL.take 24, listL.take 24, 21) = some (.nx (wordsL.take 24, listL.take 24, 22)) := cl_of cf_21 rfl rfl
theorem cf_22 : forN (F_impl_cliffordList_l3 hB sB 22) 2 0 (wordsL.take 24, listL.take 24) = some (wordsL.take 24, listL.take 24) := by decide +kernel
theorem cl_22 : F_impl_cliffordList_l2 hB sB (wordsL.take 24, listL.take 24, 22) = some (.nx (wordsL.take 24, listL.take 24, 23)) := cl_of cf_22 rfl rfl
theorem cf_23 : forN (F_impl_cliffordList_l3 hB sB 23) 2 0 (wordsL.take 24, listL.take 24) = some (wordsL.take 24, listL.take 24) := by decide +kernel
theorem cl_23 : F_impl_cliffordList_l2 hB sB (wordsL.take 24, listL.take 24, 23) = some (.nx (wordsL.take 24, listL.take 24, 24)) := cl_of cf_23 rfl rfl
theorem cl_24 : F_impl_cliffordList_l2 hB sB (wordsL.take 24, listL.take 24, 24) = some (.br (wordsL, listL, 24)) := rfl
theorem cl_loop (n : Nat) : whX (F_impl_cliffordList_l2 hB sB) (n + 25) (wordsL.take 1, listL.take 1, 0) = some (.inl (wordsL, listL, 24)) := by
  rw [whX_nx cl_0, whX_nx cl_1, whX_nx cl_2, whX_nx cl_3, whX_nx cl_4, whX_nx cl_5, whX_nx cl_6, whX_nx cl_7, whX_nx cl_8, whX_nx cl_9, whX_nx cl_10, whX_nx cl_11, whX_nx cl_12, whX_nx cl_13, whX_nx cl_14, whX_nx cl_15, whX_nx cl_16, whX_nx cl_17, whX_nx cl_18, whX_nx cl_19, whX_nx cl_20, whX_nx cl_21, whX_nx cl_22, whX_nx cl_23]
  exact whX_br cl_24
theorem cl_one : forN F_impl_cliffordList_l1 9 0 [] = some [dI 1, dI 0, dI 0, dI 0, dI 1, dI 0, dI 0, dI 0, dI 1] := by decide +kernel
theorem list_impl : F_impl_cliffordList = some (wordsL, listL) := by
  unfold F_impl_cliffordList
  rw [cl_one, gate_h, gate_s]
  simp only [Option.bind_some]
  have := cl_loop (fuel - 25)
  rw [show fuel - 25 + 25 = fuel from rfl] at this
  rw [show (([[]] : List (List UInt8)), ([[dI 1, dI 0, dI 0, dI 0, dI 1, dI 0, dI 0, dI 0, dI 1]] : List (List TDyadic)), (0 : Int)) = (wordsL.take 1, listL.take 1, 0) from rfl, this]
  rfl
theorem forN_st {σ : Type} {f : Nat → σ → Option σ} {k i : Nat} {s s' : σ} (h : f i s = some s') : forN f (k + 1) i s = forN f k (i + 1) s' := by simp only [forN, h, Option.bind_some]
def seenL (n : Nat) : List TBloch := (listL.take n).map TBloch.mk
theorem ll_of {W W' Nx lv : List (List UInt8)} {S S' : List TBloch} {n : Nat} (h : forN (F_spec_l9Words_l2 lv) n 0 (W, S, []) = some (W', S', Nx)) (hn : lv.length = n) (hw : decide ((W.length : Int) < 24) = true) (hl : lv.length ≤ 9223372036854775807) : F_spec_l9Words_l1 (W, S, lv) = some (.nx (W', S', Nx)) := by
  unfold F_spec_l9Words_l1
  simp only [hw, cond_true]
  rw [chk_t hl, hn, h]
  rfl
def lev_0 : List (List UInt8) := ([[]] : List (List UInt8))
def lev_1 : List (List UInt8) := ([[72], [83]] : List (List UInt8))
theorem ls_0_0 : F_spec_l9Words_l2 lev_0 0 (wordsL.take 0, seenL 0, []) = some (wordsL.take 1, seenL 1, (lev_1.take 2)) := by decide +kernel
theorem lf_0 : forN (F_spec_l9Words_l2 lev_0) 1 0 (wordsL.take 0, seenL 0, []) = some (wordsL.take 1, seenL 1, (lev_1.take 2)) := (forN_st ls_0_0).trans (rfl)
theorem ll_0 : F_spec_l9Words_l1 (wordsL.take 0, seenL 0, lev_0) = some (.nx (wordsL.take 1, seenL 1, lev_1)) := ll_of lf_0 rfl rfl (by decide)
def lev_2 : List (List UInt8) := ([[72, 72], [72, 83], [83, 72], [83, 83]] : List (List UInt8))
theorem ls_1_0 : F_spec_l9Words_l2 lev_1 0 (wordsL.take 1, seenL 1, []) = some (wordsL.take 2, seenL 2, (lev_2.take 2)) := by decide +kernel
theorem ls_1_1 : F_spec_l9Words_l2 lev_1 1 (wordsL.take 2, seenL 2, (lev_2.take 2)) = some (wordsL.take 3, seenL 3, (lev_2.take 4)) := by decide +kernel
theorem lf_1 : forN (F_spec_l9Words_l2 lev_1) 2 0 (wordsL.take 1, seenL 1, []) = some (wordsL.take 3, seenL 3, (lev_2.take 4)) := (forN_st ls_1_0).trans ((forN_st ls_1_1).trans (rfl))
theorem ll_1 : F_spec_l9Words_l1 (wordsL.take 1, seenL 1, lev_1) = some (.nx (wordsL.take 3, seenL 3, lev_2)) := ll_of lf_1 rfl rfl (by decide)
def lev_3 : List (List UInt8) := ([[72, 83, 72], [72, 83, 83], [83, 72, 72], [83, 72, 83], [83, 83, 72], [83, 83, 83]] : List (List UInt8))
theorem ls_2_0 : F_spec_l9Words_l2 lev_2 0 (wordsL.take 3, seenL 3, []) = some (wordsL.take 3, seenL 3, []) := by decide +kernel
theorem ls_2_1 : F_spec_l9Words_l2 lev_2 1 (wordsL.take 3, seenL 3, []) = some (wordsL.take 4, seenL 4, (lev_3.take 2)) := by decide +kernel
theorem ls_2_2 : F_spec_l9Words_l2 lev_2 2 (wordsL.take 4, seenL 4, (lev_3.take 2)) = some (wordsL.take 5, seenL 5, (lev_3.take 4)) := by decide +kernel
theorem ls_2_3 : F_spec_l9Words_l2 lev_2 3 (wordsL.take 5, seenL 5, (lev_3.take 4)) = some (wordsL.take 6, seenL 6, (lev_3.take 6)) := by decide +kernel
theorem lf_2 : forN (F_spec_l9Words_l2 lev_2) 4 0 (wordsL.take 3, seenL 3, []) = some (wordsL.take 6, seenL 6, (lev_3.take 6)) := (forN_st ls_2_0).trans ((forN_st ls_2_1).trans ((forN_st ls_2_2).trans ((forN_st ls_2_3).trans (rfl))))
theorem ll_2 : F_spec_l9Words_l1 (wordsL.take 3, seenL 3, lev_2) = some (.nx (wordsL.take 6, seenL 6, lev_3)) := ll_of lf_2 rfl rfl (by decide)
def lev_4 : List (List UInt8) := ([[72, 83, 72, 72], [72, 83, 72, 83], [72, 83, 83, 72], [72, 83, 83, 83], [83, 72, 83, 72], [83, 72, 83, 83], [83, 83, 72, 72], [83, 83, 72, 83], [83, 83, 83, 72], [83, 83, 83, 83]] : List (List UInt8))
theorem ls_3_0 : F_spec_l9Words_l2 lev_3 0 (wordsL.take 6, seenL 6, []) = some (wordsL.take 7, seenL 7, (lev_4.take 2)) := by decide +kernel
theorem ls_3_1 : F_spec_l9Words_l2 lev_3 1 (wordsL.take 7, seenL 7, (lev_4.take 2)) = some (wordsL.take 8, seenL 8, (lev_4.take 4)) := by decide +kernel
theorem ls_3_2 : F_spec_l9Words_l2 lev_3 2 (wordsL.take 8, seenL 8, (lev_4.take 4)) = some (wordsL.take 8, seenL 8, (lev_4.take 4)) := by decide +kernel
theorem ls_3_3 : F_spec_l9Words_l2 lev_3 3 (wordsL.take 8, seenL 8, (lev_4.take 4)) = some (wordsL.take 9, seenL 9, (lev_4.take 6)) := by decide +kernel
theorem ls_3_4 : F_spec_l9Words_l2 lev_3 4 (wordsL.take 9, seenL 9, (lev_4.take 6)) = some (wordsL.take 10, seenL 10, (lev_4.take 8)) := by decide +kernel
theorem ls_3_5 : F_spec_l9Words_l2 lev_3 5 (wordsL.take 10, seenL 10, (lev_4.take 8)) = some (wordsL.take 11, seenL 11, (lev_4.take 10)) := by decide +kernel
theorem lf_3 : forN (F_spec_l9Words_l2 lev_3) 6 0 (wordsL.take 6, seenL 6, []) = some (wordsL.take 11, seenL 11, (lev_4.take 10)) := (forN_st ls_3_0).trans ((forN_st ls_3_1).trans ((forN_st ls_3_2).trans ((forN_st ls_3_3).trans ((forN_st ls_3_4).trans ((forN_st ls_3_5).trans (rfl))))))
theorem ll_3 : F_spec_l9Words_l1 (wordsL.take 6, seenL 6, lev_3) = some (.nx (wordsL.take 11, seenL 11, lev_4)) := ll_of lf_3 rfl rfl (by decide)
def lev_5 : List (List UInt8) := ([[72, 83, 72, 83, 72], [72, 83, 72, 83, 83], [72, 83, 83, 72, 72], [72, 83, 83, 72, 83], [72, 83, 83, 83, 72], [72, 83, 83, 83, 83], [83, 72, 83, 83, 72], [83, 72, 83, 83, 83], [83, 83, 72, 83, 72], [83, 83, 72, 83, 83]] : List (List UInt8))
theorem ls_4_0 : F_spec_l9Words_l2 lev_4 0 (wordsL.take 11, seenL 11, []) = some (wordsL.take 11, seenL 11, []) := by decide +kernel
theorem ls_4_1 : F_spec_l9Words_l2 lev_4 1 (wordsL.take 11, seenL 11, []) = some (wordsL.take 12, seenL 12, (lev_5.take 2)) := by decide +kernel
theorem ls_4_2 : F_spec_l9Words_l2 lev_4 2 (wordsL.take 12, seenL 12, (lev_5.take 2)) = some (wordsL.take 13, seenL 13, (lev_5.take 4)) := by decide +kernel
theorem ls_4_3 : F_spec_l9Words_l2 lev_4 3 (wordsL.take 13, seenL 13, (lev_5.take 4)) = some (wordsL.take 14, seenL 14, (lev_5.take 6)) := by decide +kernel
theorem ls_4_4 : F_spec_l9Words_l2 lev_4 4 (wordsL.take 14, seenL 14, (lev_5.take 6)) = some (wordsL.take 14, seenL 14, (lev_5.take 6)) := by decide +kernel
theorem ls_4_5 : F_spec_l9Words_l2 lev_4 5 (wordsL.take 14, seenL 14, (lev_5.take 6)) = some (wordsL.take 15, seenL 15, (lev_5.take 8)) := by decide +kernel
theorem ls_4_6 : F_spec_l9Words_l2 lev_4 6 (wordsL.take 15, seenL 15, (lev_5.take 8)) = some (wordsL.take 15, seenL 15, (lev_5.take 8)) := by decide +kernel
theorem ls_4_7 : F_spec_l9Words_l2 lev_4 7 (wordsL.take 15, seenL 15, (lev_5.take 8)) = some (wordsL.take 16, seenL 16, (lev_5.take 10)) := by decide +kernel
theorem ls_4_8 : F_spec_l9Words_l2 lev_4 8 (wordsL.take 16, seenL 16, (lev_5.take 10)) = some (wordsL.take 16, seenL 16, (lev_5.take 10)) := by decide +kernel
theorem ls_4_9 : F_spec_l9Words_l2 lev_4 9 (wordsL.take 16, seenL 16, (lev_5.take 10)) = some (wordsL.take 16, seenL 16, (lev_5.take 10)) := by decide +kernel
theorem lf_4 : forN (F_spec_l9Words_l2 lev_4) 10 0 (wordsL.take 11, seenL 11, []) = some (wordsL.take 16, seenL 16, (lev_5.take 10)) := (forN_st ls_4_0).trans ((forN_st ls_4_1).trans ((forN_st ls_4_2).trans ((forN_st ls_4_3).trans ((forN_st ls_4_4).trans ((forN_st ls_4_5).trans ((forN_st ls_4_6).trans ((forN_st ls_4_7).trans ((forN_st ls_4_8).trans ((forN_st ls_4_9).trans (rfl))))))))))
theorem ll_4 : F_spec_l9Words_l1 (wordsL.take 11, seenL 11, lev_4) = some (.nx (wordsL.take 16, seenL 16, lev_5)) := ll_of lf_4 rfl rfl (by decide)
def lev_6 : List (List UInt8) := ([[72, 83, 72, 83, 83, 72], [72, 83, 72, 83, 83, 83], [72, 83, 83, 72, 83, 72], [72, 83, 83, 72, 83, 83], [83, 72, 83, 83, 72, 72], [83, 72, 83, 83, 72, 83], [83, 72, 83, 83, 83, 72], [83, 72, 83, 83, 83, 83], [83, 83, 72, 83, 83, 72], [83, 83, 72, 83, 83, 83]] : List (List UInt8))
theorem ls_5_0 : F_spec_l9Words_l2 lev_5 0 (wordsL.take 16, seenL 16, []) = some (wordsL.take 16, seenL 16, []) := by decide +kernel
theorem ls_5_1 : F_spec_l9Words_l2 lev_5 1 (wordsL.take 16, seenL 16, []) = some (wordsL.take 17, seenL 17, (lev_6.take 2)) := by decide +kernel
theorem ls_5_2 : F_spec_l9Words_l2 lev_5 2 (wordsL.take 17, seenL 17, (lev_6.take 2)) = some (wordsL.take 17, seenL 17, (lev_6.take 2)) := by decide +kernel
theorem ls_5_3 : F_spec_l9Words_l2 lev_5 3 (wordsL.take 17, seenL 17, (lev_6.take 2)) = some (wordsL.take 18, seenL 18, (lev_6.take 4)) := by decide +kernel
theorem ls_5_4 : F_spec_l9Words_l2 lev_5 4 (wordsL.take 18, seenL 18, (lev_6.take 4)) = some (wordsL.take 18, seenL 18, (lev_6.take 4)) := by decide +kernel
theorem ls_5_5 : F_spec_l9Words_l2 lev_5 5 (wordsL.take 18, seenL 18, (lev_6.take 4)) = some (wordsL.take 18, seenL 18, (lev_6.take 4)) := by decide +kernel
theorem ls_5_6 : F_spec_l9Words_l2 lev_5 6 (wordsL.take 18, seenL 18, (lev_6.take 4)) = some (wordsL.take 19, seenL 19, (lev_6.take 6)) := by decide +kernel
theorem ls_5_7 : F_spec_l9Words_l2 lev_5 7 (wordsL.take 19, seenL 19, (lev_6.take 6)) = some (wordsL.take 20, seenL 20, (lev_6.take 8)) := by decide +kernel
theorem ls_5_8 : F_spec_l9Words_l2 lev_5 8 (wordsL.take 20, seenL 20, (lev_6.take 8)) = some (wordsL.take 20, seenL 20, (lev_6.take 8)) := by decide +kernel
theorem ls_5_9 : F_spec_l9Words_l2 lev_5 9 (wordsL.take 20, seenL 20, (lev_6.take 8)) = some (wordsL.take 21, seenL 21, (lev_6.take 10)) := by decide +kernel
theorem lf_5 : forN (F_spec_l9Words_l2 lev_5) 10 0 (wordsL.take 16, seenL 16, []) = some (wordsL.take 21, seenL 21, (lev_6.take 10)) := (forN_st ls_5_0).trans ((forN_st ls_5_1).trans ((forN_st ls_5_2).trans ((forN_st ls_5_3).trans ((forN_st ls_5_4).trans ((forN_st ls_5_5).trans ((forN_st ls_5_6).trans ((forN_st ls_5_7).trans ((forN_st ls_5_8).trans ((forN_st ls_5_9).trans (rfl))))))))))
theorem ll_5 : F_spec_l9Words_l1 (wordsL.take 16, seenL 16, lev_5) = some (.nx (wordsL.take 21, seenL 21, lev_6)) := ll_of lf_5 rfl rfl (by decide)
def lev_7 : List (List UInt8) := ([[72, 83, 72, 83, 83, 72, 72], [72, 83, 72, 83, 83, 72, 83], [72, 83, 72, 83, 83, 83, 72], [72, 83, 72, 83, 83, 83, 83], [72, 83, 83, 72, 83, 83, 72], [72, 83, 83, 72, 83, 83, 83]] : List (List UInt8))
theorem ls_6_0 : F_spec_l9Words_l2 lev_6 0 (wordsL.take 21, seenL 21, []) = some (wordsL.take 22, seenL 22, (lev_7.take 2)) := by decide +kernel
theorem ls_6_1 : F_spec_l9Words_l2 lev_6 1 (wordsL.take 22, seenL 22, (lev_7.take 2)) = some (wordsL.take 23, seenL 23, (lev_7.take 4)) := by decide +kernel
theorem ls_6_2 : F_spec_l9Words_l2 lev_6 2 (wordsL.take 23, seenL 23, (lev_7.take 4)) = some (wordsL.take 23, seenL 23, (lev_7.take 4)) := by decide +kernel
theorem ls_6_3 : F_spec_l9Words_l2 lev_6 3 (wordsL.take 23, seenL 23, (lev_7.take 4)) = some (wordsL.take 24, seenL 24, (lev_7.take 6)) := by decide +kernel
theorem ls_6_4 : F_spec_l9Words_l2 lev_6 4 (wordsL.take 24, seenL 24, (lev_7.take 6)) = some (wordsL.take 24, seenL 24, (lev_7.take 6)) := by decide +kernel
theorem ls_6_5 : F_spec_l9Words_l2 lev_6 5 (wordsL.take 24, seenL 24, (lev_7.take 6)) = some (wordsL.take 24, seenL 24, (lev_7.take 6)) := by decide +kernel
theorem ls_6_6 : F_spec_l9Words_l2 lev_6 6 (wordsL.take 24, seenL 24, (lev_7.take 6)) = some (wordsL.take 24, seenL 24, (lev_7.take 6)) := by decide +kernel
theorem ls_6_7 : F_spec_l9Words_l2 lev_6 7 (wordsL.take 24, seenL 24, (lev_7.take 6)) = some (wordsL.take 24, seenL 24, (lev_7.take 6)) := by decide +kernel
theorem ls_6_8 : F_spec_l9Words_l2 lev_6 8 (wordsL.take 24, seenL 24, (lev_7.take 6)) = some (wordsL.take 24, seenL 24, (lev_7.take 6)) := by decide +kernel
theorem ls_6_9 : F_spec_l9Words_l2 lev_6 9 (wordsL.take 24, seenL 24, (lev_7.take 6)) = some (wordsL.take 24, seenL 24, (lev_7.take 6)) := by decide +kernel
theorem lf_6 : forN (F_spec_l9Words_l2 lev_6) 10 0 (wordsL.take 21, seenL 21, []) = some (wordsL.take 24, seenL 24, (lev_7.take 6)) := (forN_st ls_6_0).trans ((forN_st ls_6_1).trans ((forN_st ls_6_2).trans ((forN_st ls_6_3).trans ((forN_st ls_6_4).trans ((forN_st ls_6_5).trans ((forN_st ls_6_6).trans ((forN_st ls_6_7).trans ((forN_st ls_6_8).trans ((forN_st ls_6_9).trans (rfl))))))))))
theorem ll_6 : F_spec_l9Words_l1 (wordsL.take 21, seenL 21, lev_6) = some (.nx (wordsL.take 24, seenL 24, lev_7)) := ll_of lf_6 rfl rfl (by decide)
theorem ll_end : F_spec_l9Words_l1 (wordsL.take 24, seenL 24, lev_7) = some (.br (wordsL, seenL 24, lev_7)) := rfl
theorem ll_loop (n : Nat) : whX F_spec_l9Words_l1 (n + 8) (wordsL.take 0, seenL 0, lev_0) = some (.inl (wordsL, seenL 24, lev_7)) := (whX_nx ll_0).trans ((whX_nx ll_1).trans ((whX_nx ll_2).trans ((whX_nx ll_3).trans ((whX_nx ll_4).trans ((whX_nx ll_5).trans ((whX_nx ll_6).trans (whX_br ll_end)))))))
theorem words_spec : F_spec_l9Words = some wordsL := by
  unfold F_spec_l9Words
  have := ll_loop (fuel - 8)
  rw [show fuel - 8 + 8 = fuel from rfl] at this
  rw [show (([] : List (List UInt8)), ([] : List TBloch), ([([] : List UInt8)] : List (List UInt8))) = (wordsL.take 0, seenL 0, lev_0) from rfl, this]
  rfl
def wbF (x : List UInt8) : Option (List TDyadic) := (F_spec_l9Word x).bind fun r => (F_spec_l9Bloch r).map fun p => p.1.Cells
theorem wb_0 : (wordsL[0]?).bind wbF = listL[0]? := by decide +kernel
theorem wb_1 : (wordsL[1]?).bind wbF = listL[1]? := by decide +kernel
theorem wb_2 : (wordsL[2]?).bind wbF = listL[2]? := by decide +kernel
theorem wb_3 : (wordsL[3]?).bind wbF = listL[3]? := by decide +kernel
theorem wb_4 : (wordsL[4]?).bind wbF = listL[4]? := by decide +kernel
theorem wb_5 : (wordsL[5]?).bind wbF = listL[5]? := by decide +kernel
theorem wb_6 : (wordsL[6]?).bind wbF = listL[6]? := by decide +kernel
theorem wb_7 : (wordsL[7]?).bind wbF = listL[7]? := by decide +kernel
theorem wb_8 : (wordsL[8]?).bind wbF = listL[8]? := by decide +kernel
theorem wb_9 : (wordsL[9]?).bind wbF = listL[9]? := by decide +kernel
theorem wb_10 : (wordsL[10]?).bind wbF = listL[10]? := by decide +kernel
theorem wb_11 : (wordsL[11]?).bind wbF = listL[11]? := by decide +kernel
theorem wb_12 : (wordsL[12]?).bind wbF = listL[12]? := by decide +kernel
theorem wb_13 : (wordsL[13]?).bind wbF = listL[13]? := by decide +kernel
theorem wb_14 : (wordsL[14]?).bind wbF = listL[14]? := by decide +kernel
theorem wb_15 : (wordsL[15]?).bind wbF = listL[15]? := by decide +kernel
theorem wb_16 : (wordsL[16]?).bind wbF = listL[16]? := by decide +kernel
theorem wb_17 : (wordsL[17]?).bind wbF = listL[17]? := by decide +kernel
theorem wb_18 : (wordsL[18]?).bind wbF = listL[18]? := by decide +kernel
theorem wb_19 : (wordsL[19]?).bind wbF = listL[19]? := by decide +kernel
theorem wb_20 : (wordsL[20]?).bind wbF = listL[20]? := by decide +kernel
theorem wb_21 : (wordsL[21]?).bind wbF = listL[21]? := by decide +kernel
theorem wb_22 : (wordsL[22]?).bind wbF = listL[22]? := by decide +kernel
theorem wb_23 : (wordsL[23]?).bind wbF = listL[23]? := by decide +kernel
theorem wb_all : ∀ i, i < 24 → (wordsL[i]?).bind wbF = listL[i]?
  | 0, _ => wb_0
  | 1, _ => wb_1
  | 2, _ => wb_2
  | 3, _ => wb_3
  | 4, _ => wb_4
  | 5, _ => wb_5
  | 6, _ => wb_6
  | 7, _ => wb_7
  | 8, _ => wb_8
  | 9, _ => wb_9
  | 10, _ => wb_10
  | 11, _ => wb_11
  | 12, _ => wb_12
  | 13, _ => wb_13
  | 14, _ => wb_14
  | 15, _ => wb_15
  | 16, _ => wb_16
  | 17, _ => wb_17
  | 18, _ => wb_18
  | 19, _ => wb_19
  | 20, _ => wb_20
  | 21, _ => wb_21
  | 22, _ => wb_22
  | 23, _ => wb_23
  | n + 24, h => absurd h (by omega)
theorem to_DyadicS (a : List TDyadic) (h : a.length ≤ 1099511627776) : F_laws_toDyadicS a = some a := by
  unfold F_laws_toDyadicS
  rw [chk_t (by omega), chk_t (by omega), forN_fill (a := a) (by simp) (fun i out x hx ho => ?_)]
  · rfl
  · have hi := (List.getElem?_eq_some_iff.1 hx).1
    unfold F_laws_toDyadicS_l1 F_laws_toDyadic F_laws_toRing
    simp [getI_nat, hx, List.getElem?_eq_getElem (show i < out.length by omega)]
theorem sz_DyadicS (a : List TDyadic) (left : Int) (h : 0 ≤ left ∧ left ≤ 1048576) (ha : a.length ≤ 9223372036854775807) :
    (∃ s, F_laws_szDyadicS a left = some s ∧ (0 ≤ s ∧ s ≤ 1048576) ∧ a.length ≤ 1048576) ∨ ∃ s, F_laws_szDyadicS a left = some s ∧ s < 0 := by
  unfold F_laws_szDyadicS
  rw [wrap_i64 (a := left - (a.length : Int)) ⟨by omega, by omega⟩]
  by_cases hs : left - (a.length : Int) < 0
  · rw [decide_eq_true hs]; exact .inr ⟨_, rfl, by decide⟩
  · rw [decide_eq_false hs]; exact .inl ⟨_, rfl, ⟨by omega, by omega⟩, by omega⟩
theorem eqr_DyadicS (a : List TDyadic) (h : a.length ≤ 1099511627776) : F_laws_eqDyadicS a a = some true := by
  unfold F_laws_eqDyadicS
  simp only [bne_self_eq_false, cond_false]
  rw [chk_t (by omega), forX_pass (fun i hi => ?_)]
  · simp [orR]
  · unfold F_laws_eqDyadicS_l1 F_laws_eqDyadic F_laws_eqRing
    simp [getI_nat, List.getElem?_eq_getElem hi]
theorem to_Bloch (a : TBloch) (h0 : a.Cells.length ≤ 1099511627776) : F_laws_toBloch a = some a := by
  unfold F_laws_toBloch; simp only [to_DyadicS a.Cells h0, Option.bind_some]
theorem eqr_Bloch (a : TBloch) (h0 : a.Cells.length ≤ 1099511627776) : F_laws_eqBloch a a = some true := by
  unfold F_laws_eqBloch; simp [eqr_DyadicS a.Cells h0]
theorem sz_Bloch (a : TBloch) (left : Int) (h : 0 ≤ left ∧ left ≤ 1048576) (h0 : a.Cells.length ≤ 9223372036854775807) :
    (∃ s, F_laws_szBloch a left = some s ∧ (0 ≤ s ∧ s ≤ 1048576) ∧ a.Cells.length ≤ 1048576) ∨ ∃ s, F_laws_szBloch a left = some s ∧ s < 0 := by
  unfold F_laws_szBloch
  rcases sz_DyadicS a.Cells left h h0 with ⟨s0, e0, b0, t0_0⟩ | ⟨s0, e0, b0⟩
  rotate_left
  · exact .inr ⟨_, by rw [e0]; simp only [Option.bind_some, decide_eq_true b0, cond_true]; first | rfl | skip, by decide⟩
  rw [e0]
  simp only [Option.bind_some, decide_eq_false (show ¬ s0 < 0 by omega), cond_false]
  exact .inl ⟨_, rfl, b0, t0_0⟩
/-- The law, where the two answer alike. -/
theorem law_of (a0 : TBloch) (ok0 : ok_Bloch a0) (hb : a0.Cells.length ≤ 1048576 → ∃ (r0 : Int) (r1 : Bool), F_spec_CliffordIndex a0 = some (r0, r1) ∧ F_impl_CliffordIndex a0 = some (r0, r1)) : F_laws_FnExactCliffordIndex a0 = some true := by
  unfold F_laws_FnExactCliffordIndex
  rcases sz_Bloch a0 1048576 ⟨by decide, by decide⟩ ok0.1 with ⟨s0, e0, b0, t0_0⟩ | ⟨s0, e0, b0⟩
  rotate_left
  · simp only [e0, Option.bind_some, decide_eq_true b0, cond_true]
  obtain ⟨r0, r1, hs, hi⟩ := hb t0_0
  simp only [e0, decide_eq_false (show ¬ s0 < 0 by omega), cond_false, Option.bind_some, to_Bloch a0 (by omega), eqr_Bloch a0 (by omega), hs, hi, cond_true, gb, Bool.not_true, Bool.not_false, Bool.or_false, Bool.false_or, Bool.or_self, beq_self_eq_true, bne_self_eq_false]
theorem forX_find {ρ : Type} {f : Nat → Unit → Option (Ex Unit ρ)} (p : Nat → Bool) (g : Nat → ρ) : ∀ n i, (∀ j, i ≤ j → j < i + n → f j () = some (bif p j then .rt (g j) else .nx ())) →
    forX f n i () = some (match (List.range' i n).find? p with | some j => .inr (g j) | none => .inl ())
  | 0, i, _ => rfl
  | n + 1, i, h => by
    rw [forX, h i (Nat.le_refl i) (by omega), List.range'_succ, List.find?_cons]
    cases hp : p i with
    | true => rfl
    | false => exact forX_find p g n (i + 1) (fun j h1 h2 => h j (by omega) (by omega))
theorem list_nine (i : Nat) (x : List TDyadic) (h : listL[i]? = some x) : x.length = 9 := by
  have : ∀ y ∈ listL, y.length = 9 := by decide
  exact this x (List.mem_of_getElem? h)
def hitB (b : TBloch) (i : Nat) : Bool := match listL[i]? with | some x => decide (x = b.Cells) | none => false
theorem spec_idx {b : TBloch} (hb : b.Cells.length = 9) : F_spec_l9Index b = some (match (List.range' 0 24).find? (hitB b) with | some j => (j : Int) | none => -1) := by
  unfold F_spec_l9Index
  rw [words_spec]
  simp only [Option.bind_some]
  rw [chk_t (by decide), show wordsL.length = 24 from rfl, forX_find (hitB b) (fun j => (j : Int)) 24 0 (fun j _ hj => by
    have hj : j < 24 := by omega
    have hw := wb_all j hj
    unfold F_spec_l9Index_l1 hitB
    rw [getI_nat]
    cases hl : listL[j]? with
    | none => exact absurd (List.getElem?_eq_none_iff.1 hl) (by show ¬ (24 ≤ j); omega)
    | some x =>
      rw [hl] at hw
      obtain ⟨y, h1, h2⟩ := Option.bind_eq_some_iff.1 hw
      obtain ⟨r, h3, h4⟩ := Option.bind_eq_some_iff.1 h2
      obtain ⟨⟨m, k⟩, h5, h6⟩ := Option.map_eq_some_iff.1 h4
      have h6 : m.Cells = x := h6
      rw [h1, Option.bind_some, h3, Option.bind_some, h5, Option.bind_some]
      show (F_spec_l9Same m b).bind _ = _
      rw [spec_same (by rw [h6]; exact list_nine j x hl) hb, Option.bind_some, h6]
      show (bif decide (x = b.Cells) then _ else _) = some (bif decide (x = b.Cells) then _ else _)
      cases decide (x = b.Cells) <;> rfl)]
  cases (List.range' 0 24).find? (hitB b) <;> rfl
theorem impl_idx (b : TBloch) : ((chk (listL.length ≤ 9223372036854775807) <| (forX (F_impl_CliffordIndex_l1 listL b) listL.length 0 ()).bind <| orR fun _ => some ((0, false))) : Option (Int × Bool)) =
    some (match (List.range' 0 24).find? (hitB b) with | some j => ((j : Int), true) | none => (0, false)) := by
  rw [chk_t (by decide), show listL.length = 24 from rfl, forX_find (hitB b) (fun j => ((j : Int), true)) 24 0 (fun j _ hj => by
    have hj : j < 24 := by omega
    unfold F_impl_CliffordIndex_l1 hitB
    rw [getI_nat]
    cases hl : listL[j]? with
    | none => exact absurd (List.getElem?_eq_none_iff.1 hl) (by show ¬ (24 ≤ j); omega)
    | some x =>
      rw [Option.bind_some, impl_leq (by rw [list_nine j x hl]; omega), Option.bind_some]
      show (bif decide (x = b.Cells) then _ else _) = some (bif decide (x = b.Cells) then _ else _)
      cases decide (x = b.Cells) <;> rfl)]
  cases (List.range' 0 24).find? (hitB b) <;> rfl
theorem law_FnExactCliffordIndex (a0 : TBloch) (ok0 : ok_Bloch a0) : F_laws_FnExactCliffordIndex a0 = some true := by
  refine law_of a0 ok0 (fun _ => ?_)
  unfold F_spec_CliffordIndex F_impl_CliffordIndex
  rw [impl_valid, spec_valid]
  simp only [Option.bind_some]
  cases hv : bvO a0.Cells with
  | false => exact ⟨_, _, rfl, rfl⟩
  | true =>
    have h9 : a0.Cells.length = 9 := by
      unfold bvO at hv
      simp only [Bool.and_eq_true, decide_eq_true_eq] at hv
      exact hv.1.1
    rw [list_impl]
    simp only [Option.bind_some, Bool.not_true, cond_false]
    rw [impl_idx]
    simp only [gb, Bool.not_true, Bool.not_false, cond_true, spec_idx h9, Option.bind_some, Bool.false_or]
    cases (List.range' 0 24).find? (hitB a0) with
    | none => exact ⟨_, _, rfl, rfl⟩
    | some j =>
      simp only [show decide ((j : Int) < 0) = false from decide_eq_false (by omega), cond_false]
      exact ⟨_, _, rfl, rfl⟩
end Go.VK
