/- The plain law of FnPhasePolynomials: what its Lean function answers, for all arguments. -/
import Derived.Test.YtkmncijipedjaaaGreatLPhasePolynomialsLaw1
set_option maxRecDepth 10000
set_option maxHeartbeats 1000000
set_option linter.unusedSimpArgs false
set_option linter.unusedVariables false
namespace Go.VK
theorem tl_sum {N : Nat} {S : List Int} (h : TabOk N S) {f : Nat → Int} (hf : f 0 = 0) : ∀ n, termS f (tl S n) = iSum n (fun m => f m * S.getD m 0)
 | 0 => rfl
 | n + 1 => by
  show termS f (tl S n ++ _) = iSum n (fun m => f m * S.getD m 0) + f n * S.getD n 0
  rw [← tl_sum h hf n]
  split
  ·rw [termS_snoc]; rfl
  ·rename_i hc
   rw [List.append_nil]
   have h0 := (h.2.1 n).1
   by_cases hn : n = 0
   ·subst hn; rw [hf]; omega
   ·rw [show S.getD n 0 = 0 by omega]; omega
theorem tl_val {N : Nat} {S : List Int} (h : TabOk N S) {f : Nat → Int} (hf : f 0 = 0) : termS f (tl S 32) = tabS f S := tl_sum h hf 32
theorem tl_get {N : Nat} {S : List Int} (h : TabOk N S) : ∀ (n : Nat), (∀ x ∈ tl S n, (1 ≤ x.Mask ∧ x.Mask < (N : Int) ∧ x.Mask < (n : Int)) ∧ 1 ≤ x.Coef ∧ x.Coef ≤ 7) ∧ ∀ (i : Nat) x y, (tl S n)[i]? = some x → (tl S n)[i + 1]? = some y → x.Mask < y.Mask
 | 0 => ⟨fun x hx => (by cases hx), fun i x y hx => (by simp [tl] at hx)⟩
 | n + 1 => by
  obtain ⟨h1, h2⟩ := tl_get h n
  unfold tl
  split
  ·rename_i hc
   have hnN : n < N := by
    rcases Nat.lt_or_ge n N with a | a
    ·exact a
    ·have := h.2.2 n a; omega
   have h7 := (h.2.1 n).2
   refine ⟨fun x hx => ?_, fun i x y hx hy => ?_⟩
   ·rcases List.mem_append.1 hx with hx | hx
    ·obtain ⟨a, b⟩ := h1 x hx
     exact ⟨⟨a.1, a.2.1, by omega⟩, b⟩
    ·simp only [List.mem_singleton] at hx
     subst hx
     simp only
     omega
   ·have hyl := (List.getElem?_eq_some_iff.1 hy).1
    rw [List.length_append, List.length_singleton] at hyl
    rw [List.getElem?_append_left (by omega)] at hx
    by_cases hi : i + 1 < (tl S n).length
    ·rw [List.getElem?_append_left hi] at hy
     exact h2 i x y hx hy
    ·rw [List.getElem?_append_right (by omega), show i + 1 - (tl S n).length = 0 by omega] at hy
     cases hy
     exact (h1 x (List.mem_of_getElem? hx)).1.2.2
  ·rw [List.append_nil]
   exact ⟨fun x hx => by obtain ⟨a, b⟩ := h1 x hx; exact ⟨⟨a.1, a.2.1, by omega⟩, b⟩, h2⟩
theorem areTerms_true {T : List TTerm} {n : Nat} (hn : 1 ≤ n ∧ n ≤ 5) (hl : T.length ≤ 9223372036854775807) (h1 : ∀ x ∈ T, (1 ≤ x.Mask ∧ x.Mask < ((2 ^ n : Nat) : Int)) ∧ 1 ≤ x.Coef ∧ x.Coef ≤ 7) (h2 : ∀ (i : Nat) x y, T[i]? = some x → T[i + 1]? = some y → x.Mask < y.Mask) : F_impl_areTerms (n : Int) T = some true := by
 have hq : 1 ≤ (n : Int) ∧ (n : Int) ≤ 5 := by omega
 obtain ⟨s1, s2, s3, s4, s5, s6⟩ := shl_small hq
 rw [Int.toNat_natCast] at s2 s3 s4 s5 s6
 unfold F_impl_areTerms
 rw [chk_t hl, forX_pass (f := F_impl_areTerms_l1 T n) (n := T.length) (s := ()) (fun k hk => by
  have hx := List.getElem?_eq_getElem hk
  generalize T[k] = x at hx
  obtain ⟨⟨a1, a2⟩, a3, a4⟩ := h1 x (List.mem_of_getElem? hx)
  unfold F_impl_areTerms_l1
  rw [getI_nat, hx]
  simp only [Option.bind_some]
  rw [chk_t (by omega), s3, s6, in_eq, in_eq]
  simp only [Option.bind_some]
  rw [decide_eq_true a1, decide_eq_true (show x.Mask ≤ ((2 ^ n : Nat) : Int) - 1 by omega), decide_eq_true a3, decide_eq_true a4]
  simp only [Bool.and_self, Bool.not_true, Bool.not_false, Bool.or_self, gb, cond_true, Option.bind_some, Bool.true_and, Bool.false_or]
  by_cases hk0 : k = 0
  ·subst hk0
   rw [decide_eq_false (show ¬ (0 : Int) < ((0 : Nat) : Int) by omega)]
   simp only [cond_false, Option.bind_some, Bool.false_and]
  ·rw [decide_eq_true (show (0 : Int) < (k : Int) by omega), wrap_i64 (a := (k : Int) - 1) ⟨by omega, by omega⟩]
   obtain ⟨j, rfl⟩ : ∃ j, k = j + 1 := ⟨k - 1, by omega⟩
   rw [show (((j + 1 : Nat) : Int) - 1) = ((j : Nat) : Int) by omega, getI_nat]
   have hy := List.getElem?_eq_getElem (show j < T.length by omega)
   generalize T[j] = y at hy
   rw [hy]
   simp only [cond_true, Option.bind_some, Bool.true_and]
   have := h2 j y x hy hx
   rw [decide_eq_false (show ¬ x.Mask ≤ y.Mask by omega)]
   rfl)]
 rfl
/-- One more onto a table. -/
theorem tab_add {N : Nat} {S : List Int} (h : TabOk N S) (hN : N ≤ 32) {m : Nat} (hm : m < N) {d : Int} (hd : -28 ≤ d ∧ d ≤ 28) : ∃ S', F_impl_coefficients_add S (m : Int) d = some S' ∧ TabOk N S' ∧ ∀ f, ∃ q, tabS f S' = tabS f S + f m * d + 8 * q := by
 have hl := h.1
 have hx : getI S (m : Int) = some (S.getD m 0) := by rw [getI_nat, List.getD_eq_getElem?_getD, List.getElem?_eq_getElem (show m < S.length by omega)]; rfl
 have hb := h.2.1 m
 refine ⟨S.set m ((S.getD m 0 + d) % 8), ?_, ⟨by simpa using hl, fun j => ?_, fun j hj => ?_⟩, fun f => ⟨f m * -((S.getD m 0 + d) / 8), ?_⟩⟩
 ·unfold F_impl_coefficients_add
  rw [hx]
  simp only [Option.bind_some]
  rw [wrap_i64 (a := S.getD m 0 + d) ⟨by omega, by omega⟩]
  have := m8_eq (x := S.getD m 0 + d) ⟨by omega, by omega⟩
  unfold m8 at this
  rw [this]; rfl
 ·rw [getD_set_i (by omega)]
  split
  ·omega
  ·exact h.2.1 j
 ·rw [getD_set_i (by omega), if_neg (by omega)]
  exact h.2.2 j hj
 ·rw [tabS_set f hl (by omega)]
  generalize S.getD m 0 = s at *
  have e : (s + d) % 8 - s = d + 8 * -((s + d) / 8) := by omega
  rw [e, Int.mul_add, Int.mul_left_comm]
  omega
theorem tab_zero (N : Nat) : TabOk N (List.replicate 32 0) ∧ ∀ f, tabS f (List.replicate 32 0) = 0 := by
 have e : ∀ m, (List.replicate 32 (0 : Int)).getD m 0 = 0 := fun m => by
  rw [List.getD_eq_getElem?_getD, List.getElem?_replicate]; split <;> rfl
 exact ⟨⟨by simp, fun m => by rw [e]; omega, fun m _ => e m⟩, fun f => iSum_zero fun k _ => by rw [e]; omega⟩
def pn (x : Nat) : Nat := (setW x 32).length % 2
theorem pn_small : ∀ (a b : Fin 32), pn (a.val ^^^ b.val) = (pn a.val + pn b.val) % 2 := by decide +kernel
theorem pn_lt (x : Nat) : pn x < 2 := Nat.mod_lt _ (by decide)
theorem pn_xor {a b : Nat} (ha : a < 32) (hb : b < 32) : pn (a ^^^ b) = (pn a + pn b) % 2 := pn_small ⟨a, ha⟩ ⟨b, hb⟩
theorem and32 {a : Nat} (b : Nat) (ha : a < 32) : a &&& b < 32 := Nat.lt_of_le_of_lt Nat.and_le_left ha
theorem pn_and_xor {a b : Nat} (x : Nat) (ha : a < 32) (hb : b < 32) : pn ((a ^^^ b) &&& x) = (pn (a &&& x) + pn (b &&& x)) % 2 := by
 rw [Nat.and_xor_distrib_right, pn_xor (and32 x ha) (and32 x hb)]
theorem parity_eq {m x : Nat} (hm : m < 32) (hx : x < 32) : F_impl_parityOf (bits .and .i64 (m : Int) (x : Int)) = some ((pn (m &&& x) : Nat) : Int) := by
 have h := and32 x hm
 unfold F_impl_parityOf F_math_bits_OnesCount
 rw [and_i (by omega) (by omega), wrapU (by omega), ones_eq (by omega)]
 rfl
def phS (x : Nat) (m : Nat) : Int := ((pn (m &&& x) : Nat) : Int)
theorem phS_zero (x : Nat) : phS x 0 = 0 := by unfold phS; rw [Nat.zero_and]; decide
theorem termS_bound {T : List TTerm} {f : Nat → Int} (hf : ∀ m, 0 ≤ f m ∧ f m ≤ 1) (hT : ∀ x ∈ T, 1 ≤ x.Coef ∧ x.Coef ≤ 7) : 0 ≤ termS f T ∧ termS f T ≤ 7 * (T.length : Int) := by
 induction T with
 | nil => exact ⟨Int.le_refl 0, by simp [termS]⟩
 | cons t T ih =>
  have h1 := ih (fun x hx => hT x (List.mem_cons_of_mem _ hx))
  have h2 := hT t (List.mem_cons_self ..)
  have h3 := hf t.Mask.toNat
  have h4 : 0 ≤ f t.Mask.toNat * t.Coef ∧ f t.Mask.toNat * t.Coef ≤ 7 := by
   have : f t.Mask.toNat = 0 ∨ f t.Mask.toNat = 1 := by omega
   rcases this with e | e <;> rw [e] <;> omega
  show 0 ≤ f t.Mask.toNat * t.Coef + termS f T ∧ f t.Mask.toNat * t.Coef + termS f T ≤ _
  simp only [List.length_cons]
  push_cast
  omega
theorem mem_take {α : Type} {T : List α} {i : Nat} {x : α} (h : x ∈ T.take i) : x ∈ T := List.mem_of_mem_take h
theorem poly_coef {p : TPhasePoly} {n : Nat} {l : List Nat} (h : PolyOk p n l) : ∀ x ∈ p.Terms, 1 ≤ x.Coef ∧ x.Coef ≤ 7 := fun x hx => by
 obtain ⟨i, hi⟩ := List.mem_iff_getElem?.1 hx
 exact (h.2.2.2.1 i x hi).2.2
theorem poly_mask {p : TPhasePoly} {n : Nat} {l : List Nat} (h : PolyOk p n l) : ∀ x ∈ p.Terms, ∃ m : Nat, x.Mask = (m : Int) ∧ 1 ≤ m ∧ m < 2 ^ n := fun x hx => by
 obtain ⟨i, hi⟩ := List.mem_iff_getElem?.1 hx
 exact mask_nat h hi
/-- The phase at a basis state. -/
theorem phase_at {p : TPhasePoly} {n : Nat} {l : List Nat} (h : PolyOk p n l) (hv : F_impl_IsValidPhasePoly p = some true) {x : Nat} (hx : x < 2 ^ n) : F_impl_PhaseAt p (x : Int) = some ((p.Phase + termS (phS x) p.Terms) % 8, true) := by
 have t0 := terms_len h
 have h32 := pow32 h.1.2.1
 have hq : 1 ≤ p.Qubits ∧ p.Qubits ≤ 5 := by have := h.1; omega
 obtain ⟨s1, s2, s3, s4, s5, s6⟩ := shl_small hq
 have hqn : p.Qubits.toNat = n := by have := h.1; omega
 rw [hqn] at s2 s3 s4 s5 s6
 have hf : ∀ m, 0 ≤ phS x m ∧ phS x m ≤ 1 := fun m => by unfold phS; have := pn_lt (m &&& x); omega
 unfold F_impl_PhaseAt
 rw [hv]
 simp only [Option.bind_some, Bool.not_true, Bool.not_false, gb, cond_true, Bool.false_or]
 rw [chk_t (fun _ => by omega), s3, s6, in_eq, decide_eq_true (show (0 : Int) ≤ (x : Int) by omega), decide_eq_true (show (x : Int) ≤ ((2 ^ n : Nat) : Int) - 1 by omega)]
 simp only [Option.bind_some, Bool.and_self, Bool.not_true, cond_false]
 rw [chk_t (by omega)]
 obtain ⟨e, h1, h2⟩ := forN_inv (f := F_impl_PhaseAt_l1 p (x : Int)) (fun i e => e = p.Phase + termS (phS x) (p.Terms.take i)) p.Terms.length 0 p.Phase (by rw [List.take_zero]; show _ = _ + (0 : Int); omega) (fun i e _ hi he => by
  have hx' := List.getElem?_eq_getElem (show i < p.Terms.length by omega)
  generalize p.Terms[i] = y at hx'
  have hmem := List.mem_of_getElem? hx'
  obtain ⟨m, hm, m1, m2⟩ := poly_mask h y hmem
  have hc := poly_coef h y hmem
  have hb := termS_bound (T := p.Terms.take i) hf (fun z hz => poly_coef h z (mem_take hz))
  have hl : (p.Terms.take i).length ≤ 31 := by rw [List.length_take]; omega
  have hph := h.2.1
  refine ⟨_, ?_, rfl⟩
  unfold F_impl_PhaseAt_l1
  rw [getI_nat, hx']
  simp only [Option.bind_some]
  rw [hm, parity_eq (by omega) (by omega)]
  simp only [Option.bind_some]
  rw [termS_take _ hx', hm, Int.toNat_natCast, he]
  have h3 : y.Coef * ((pn (m &&& x) : Nat) : Int) = phS x m * y.Coef := Int.mul_comm _ _
  have h4 := hf m
  have h5 : 0 ≤ phS x m * y.Coef ∧ phS x m * y.Coef ≤ 7 := by
   have : phS x m = 0 ∨ phS x m = 1 := by omega
   rcases this with e | e <;> rw [e] <;> omega
  rw [h3, wrap_i64 (a := phS x m * y.Coef) ⟨by omega, by omega⟩, wrap_i64 ⟨by omega, by omega⟩, Int.add_assoc])
 rw [h1, h2, Nat.zero_add, List.take_length]
 have hb := termS_bound (T := p.Terms) hf (fun z hz => poly_coef h z hz)
 have hph := h.2.1
 simp only [Option.bind_some]
 rw [Int.tmod_eq_emod_of_nonneg (by omega)]
theorem cI_inj {l l' : List Nat} (h : cI l = cI l') : l = l' := by
 have key : ∀ l : List Nat, (cI l).map Int.toNat = l := fun l => by
  unfold cI
  rw [List.map_map]
  conv => rhs; rw [← List.map_id l]
  apply List.map_congr_left
  intro x _; rfl
 rw [← key l, h, key l']
/-- What is checked is what it should be. -/
theorem poly_mk {n : Nat} (hn : 1 ≤ n ∧ n ≤ 5) {P : Int} (hP : 0 ≤ P ∧ P ≤ 7) {S : List Int} (hS : TabOk (2 ^ n) S) {l : List Nat} (hl : NOk n l) (hF : Full n l) :
  F_impl_IsValidPhasePoly (TPhasePoly.mk (n : Int) P (tl S 32) (TLinear.mk (cI l))) = some true ∧ PolyOk (TPhasePoly.mk (n : Int) P (tl S 32) (TLinear.mk (cI l))) n l := by
 have hlen := tl_len S 32
 have hcl : (cI l).length = n := by rw [cI_len]; exact hl.1
 have hv : F_impl_IsValidPhasePoly (TPhasePoly.mk (n : Int) P (tl S 32) (TLinear.mk (cI l))) = some true := by
  unfold F_impl_IsValidPhasePoly
  simp only
  rw [in_eq, in_eq, decide_eq_true (show (1 : Int) ≤ (n : Int) by omega), decide_eq_true (show (n : Int) ≤ 5 by omega), decide_eq_true hP.1, decide_eq_true hP.2]
  simp only [Option.bind_some, Bool.and_self, gb, cond_true]
  rw [areTerms_true hn (by omega) (fun x hx => by
   obtain ⟨⟨a, b, _⟩, c⟩ := (tl_get hS 32).1 x hx
   exact ⟨⟨a, b⟩, c⟩) (tl_get hS 32).2]
  simp only [Option.bind_some, Bool.true_and]
  rw [hcl, beq_self_eq_true]
  simp only [cond_true]
  rw [lin_valid hl.1 hn.1 hn.2 hl.2 hF]
  rfl
 refine ⟨hv, ?_⟩
 obtain ⟨b, e1, e2, e3⟩ := poly_both (p := TPhasePoly.mk (n : Int) P (tl S 32) (TLinear.mk (cI l))) (by simp only; omega) (by simp only; omega)
 rw [hv] at e2
 cases e2
 obtain ⟨n', l', k⟩ := e3 rfl
 have hnn : n' = n := by have := k.1.2.2; simp only at this; omega
 have hll := k.2.2.1.1
 simp only [TLinear.mk.injEq] at hll
 have hll := cI_inj hll
 subst hll hnn
 exact k
def mid (l : List Nat) (x : Nat) : Nat → Nat
 | 0 => 0
 | k + 1 => mid l x k ||| (pn (l.getD k 0 &&& x) <<< k)
theorem mid_lt (l : List Nat) (x : Nat) : ∀ k, mid l x k < 2 ^ k
 | 0 => Nat.one_pos
 | k + 1 => by
  have h1 := mid_lt l x k
  have h2 := pn_lt (l.getD k 0 &&& x)
  have h3 : 2 ^ k < 2 ^ (k + 1) := Nat.pow_lt_pow_right (by decide) (by omega)
  refine Nat.or_lt_two_pow (by omega) ?_
  rw [Nat.shiftLeft_eq, Nat.pow_succ, Nat.mul_comm]
  exact Nat.mul_lt_mul_of_pos_left h2 (Nat.two_pow_pos k)
theorem mid_bit (l : List Nat) (x : Nat) : ∀ k j, j < k → (mid l x k).testBit j = decide (pn (l.getD j 0 &&& x) = 1)
 | 0, _, h => absurd h (Nat.not_lt_zero _)
 | k + 1, j, h => by
  have h2 := pn_lt (l.getD k 0 &&& x)
  show (mid l x k ||| (pn (l.getD k 0 &&& x) <<< k)).testBit j = _
  rw [Nat.testBit_or, Nat.testBit_shiftLeft]
  by_cases hj : j = k
  ·subst hj
   rw [tb_out (mid_lt l x j) (Nat.le_refl _), Nat.sub_self]
   have : pn (l.getD j 0 &&& x) = 0 ∨ pn (l.getD j 0 &&& x) = 1 := by omega
   rcases this with e | e <;> rw [e] <;> simp
  ·rw [mid_bit l x k j (by omega), decide_eq_false (show ¬ j ≥ k by omega)]
   simp
def pnL : List Nat := [0, 1, 1, 0, 1, 0, 0, 1, 1, 0, 0, 1, 0, 1, 1, 0, 1, 0, 0, 1, 0, 1, 1, 0, 0, 1, 1, 0, 1, 0, 0, 1]
theorem pn_tab : ∀ m : Fin 32, pn m.val = pnL.getD m.val 0 := by decide +kernel
theorem forN_ind {σ : Type} {f : Nat → σ → Option σ} (I : Nat → σ → Prop) : ∀ (k i : Nat) (s z : σ), forN f k i s = some z → I i s → (∀ j s s', i ≤ j → j < i + k → I j s → f j s = some s' → I (j + 1) s') → I (i + k) z
 | 0, _, _, _, h, hI, _ => by cases h; exact hI
 | k + 1, i, s, z, h, hI, hs => by
  obtain ⟨s', h1, h2⟩ := forN_go h
  have := forN_ind I k (i + 1) s' z h2 (hs i s s' (Nat.le_refl _) (by omega) hI h1) (fun j s s' h1 h2 => hs j s s' (by omega) (by omega))
  rwa [show i + (k + 1) = i + 1 + k by omega]
theorem rc_inj {C i j i' j' : Nat} (hj : j < C) (hj' : j' < C) (h : i * C + j = i' * C + j') : i = i' ∧ j = j' := by
 rcases Nat.lt_trichotomy i i' with h1 | h1 | h1
 ·have := Nat.mul_le_mul_right C (show i + 1 ≤ i' from h1)
  rw [Nat.add_mul] at this; omega
 ·subst h1; omega
 ·have := Nat.mul_le_mul_right C (show i' + 1 ≤ i from h1)
  rw [Nat.add_mul] at this; omega
theorem grid_get {cell : Nat → Nat → Option TDyadic} {R C : Nat} {l : List TDyadic} (h : gridO cell R C = some l) : l.length = R * C ∧ ∀ i j, i < R → j < C → cell i j = some (l.getD (i * C + j) dZero) := by
 have hP := forN_ind (fun i (l : List TDyadic) => l.length = i * C ∧ ∀ i' j', j' < C → i' * C + j' < i * C → cell i' j' = some (l.getD (i' * C + j') dZero)) R 0 [] l h ⟨by simp, fun i' j' _ h => by omega⟩ (fun i s s' _ _ hI hs => by
  have := forN_ind (fun j (l : List TDyadic) => l.length = i * C + j ∧ ∀ i' j', j' < C → i' * C + j' < i * C + j → cell i' j' = some (l.getD (i' * C + j') dZero)) C 0 s s' hs ⟨by omega, fun i' j' h1 h2 => hI.2 i' j' h1 (by omega)⟩ (fun j s s' _ hj hI hs => by
   obtain ⟨z, hz, hs⟩ := Option.bind_eq_some_iff.1 hs
   cases hs
   refine ⟨by simp [hI.1]; omega, fun i' j' h1 h2 => ?_⟩
   by_cases he : i' * C + j' = i * C + j
   ·obtain ⟨rfl, rfl⟩ := rc_inj h1 (by omega) he
    rw [hz, List.getD_eq_getElem?_getD, List.getElem?_append_right (by omega), hI.1]
    simp
   ·rw [hI.2 i' j' h1 (by omega), List.getD_eq_getElem?_getD, List.getD_eq_getElem?_getD, List.getElem?_append_left (by omega)])
  refine ⟨by rw [this.1, Nat.add_mul]; omega, fun i' j' h1 h2 => this.2 i' j' h1 (by rw [Nat.add_mul] at h2; omega)⟩)
 rw [Nat.zero_add] at hP
 exact ⟨hP.1, fun i j hi hj => hP.2 i j hj (ix_lt hi hj)⟩
theorem grid_ext {R C : Nat} {l l' : List TDyadic} (hl : l.length = R * C) (hl' : l'.length = R * C) (h : ∀ i j, i < R → j < C → l.getD (i * C + j) dZero = l'.getD (i * C + j) dZero) : l = l' := by
 apply List.ext_getElem (by omega)
 intro p h1 h2
 have hC : 0 < C := by
  rcases Nat.eq_zero_or_pos C with h0 | h0
  ·rw [h0, Nat.mul_zero] at hl; omega
  ·exact h0
 have hp : p / C * C + p % C = p := by rw [Nat.mul_comm]; exact Nat.div_add_mod p C
 have := h (p / C) (p % C) ((Nat.div_lt_iff_lt_mul hC).2 (by omega)) (Nat.mod_lt _ hC)
 rw [hp, List.getD_eq_getElem?_getD, List.getD_eq_getElem?_getD, List.getElem?_eq_getElem h1, List.getElem?_eq_getElem h2] at this
 exact this
def BOk (code : List Int) : Prop := code.length ≤ 9223372036854775807 ∧ ∀ y ∈ code, U8 y
/-- A draw gives a value that P is true of, and goes on by at most n places. -/
def Dr {α : Type} (f : Tl1Cur → Option (α × Tl1Cur)) (P : α → Prop) (n : Nat) : Prop :=
 ∀ (code : List Int) (a s : Int) (k : Nat), BOk code → 0 ≤ a → a ≤ k → k + n ≤ 1000000000 → ∃ v a' s', f (Tl1Cur.mk code a s) = some (v, Tl1Cur.mk code a' s') ∧ P v ∧ 0 ≤ a' ∧ a' ≤ ((k + n : Nat) : Int)
theorem Dr.mono {α : Type} {f : Tl1Cur → Option (α × Tl1Cur)} {P P' : α → Prop} {n n' : Nat} (h : Dr f P n) (hP : ∀ v, P v → P' v) (hn : n ≤ n') : Dr f P' n' := fun code a s k hb h0 h1 h2 => by
 obtain ⟨v, a', s', e, p, q, r⟩ := h code a s k hb h0 h1 (by omega)
 exact ⟨v, a', s', e, hP v p, q, by omega⟩
theorem next_d : Dr F_spec_l1Cur_next (fun v => 0 ≤ v ∧ v ≤ 255) 1 := fun code a s k hb h0 h1 h2 => by
 obtain ⟨b1, b2⟩ := hb
 have hw : IntKind.i64.wrap (a + 1) = a + 1 := wrap_i64 ⟨by omega, by omega⟩
 have hrest : ∀ b : Int, 0 ≤ b ∧ b ≤ 255 → ∃ v a' s', (bif (decide ((IntKind.i64.wrap (a + 1)) ≤ (code.length : Int))) then (some ((b, (Tl1Cur.mk code (IntKind.i64.wrap (a + 1)) (IntKind.u64.wrap ((IntKind.u64.wrap ((IntKind.u64.wrap (s * 6364136223846793005)) + (IntKind.u64.wrap b))) + 1442695040888963407)))))) else (some (((IntKind.i64.wrap (bits .and .u64 (shrK .u64 (IntKind.u64.wrap ((IntKind.u64.wrap ((IntKind.u64.wrap (s * 6364136223846793005)) + (IntKind.u64.wrap b))) + 1442695040888963407)) 40) 255)), (Tl1Cur.mk code (IntKind.i64.wrap (a + 1)) (IntKind.u64.wrap ((IntKind.u64.wrap ((IntKind.u64.wrap (s * 6364136223846793005)) + (IntKind.u64.wrap b))) + 1442695040888963407))))))) = some (v, Tl1Cur.mk code a' s') ∧ (0 ≤ v ∧ v ≤ 255) ∧ 0 ≤ a' ∧ a' ≤ ((k + 1 : Nat) : Int) := fun b hb => by
  rw [hw]
  cases decide (a + 1 ≤ (code.length : Int)) with
  | true => exact ⟨_, _, _, rfl, hb, by omega, by omega⟩
  | false =>
   refine ⟨_, _, _, rfl, ?_, by omega, by omega⟩
   generalize hz : IntKind.u64.wrap ((IntKind.u64.wrap ((IntKind.u64.wrap (s * 6364136223846793005)) + (IntKind.u64.wrap b))) + 1442695040888963407) = z
   have key : ∃ m : Nat, bits .and .u64 (shrK .u64 z 40) 255 = (m : Int) ∧ m ≤ 255 := by
    have z0 : 0 ≤ z := by rw [← hz]; exact Int.emod_nonneg _ (by decide)
    have z1 : z < 18446744073709551616 := by rw [← hz]; exact Int.emod_lt_of_pos _ (by decide)
    obtain ⟨n, rfl⟩ : ∃ n : Nat, z = n := ⟨z.toNat, by omega⟩
    rw [show (40 : Int) = ((40 : Nat) : Int) from rfl, shr_u n 40 (by decide), show (255 : Int) = ((255 : Nat) : Int) from rfl, and_u (Nat.lt_of_le_of_lt (Nat.div_le_self _ _) (by omega)) (by decide)]
    exact ⟨_, rfl, Nat.and_le_right⟩
   obtain ⟨m, e, hm⟩ := key
   rw [e, wrap_i64 (a := (m : Int)) ⟨by omega, by omega⟩]
   omega
 unfold F_spec_l1Cur_next
 simp only
 by_cases hlt : a < (code.length : Int)
 ·rw [decide_eq_true hlt]
  obtain ⟨x, hx, hx2⟩ := getI_at h0 hlt
  have := b2 x (List.mem_of_getElem? hx2)
  unfold U8 at this
  simp only [cond_true, hx, Option.bind_some]
  rw [wrap_i64 (a := x) ⟨by omega, by omega⟩]
  exact hrest x this
 ·rw [decide_eq_false hlt]
  simp only [cond_false, Option.bind_some]
  exact hrest 0 ⟨by decide, by decide⟩
theorem pick_d (n : Int) (hn : n ≤ 1000000) : Dr (fun c => F_spec_l1Cur_pick c n) (fun v => 0 ≤ v ∧ (v < n ∨ v = 0)) 2 := fun code a s k hb h0 h1 h2 => by
 unfold F_spec_l1Cur_pick
 by_cases hle : n ≤ 1
 ·rw [decide_eq_true hle]
  exact ⟨0, a, s, rfl, ⟨Int.le_refl 0, .inr rfl⟩, h0, by omega⟩
 ·rw [decide_eq_false hle]
  obtain ⟨v, a', s', e, hv, a0, a1⟩ := next_d code a s k hb h0 h1 (by omega)
  simp only [cond_false]
  rw [e]
  simp only [Option.bind_some]
  have tmb : ∀ x : Int, 0 ≤ x → 0 ≤ Int.tmod x n ∧ (Int.tmod x n < n ∨ Int.tmod x n = 0) := fun x hx => ⟨Int.tmod_nonneg n hx, .inl (Int.tmod_lt_of_pos x (by omega))⟩
  by_cases hbig : 200 < n
  ·rw [decide_eq_true hbig]
   obtain ⟨v2, a2, s2, e2, hv2, b0, b1⟩ := next_d code a' s' (k + 1) hb a0 a1 (by omega)
   simp only [cond_true]
   rw [e2]
   simp only [Option.bind_some]
   rw [chk_t (by omega), wrap_i64 (a := v * 256) ⟨by omega, by omega⟩, wrap_i64 (a := v * 256 + v2) ⟨by omega, by omega⟩]
   exact ⟨_, _, _, rfl, tmb _ (by omega), b0, by omega⟩
  ·rw [decide_eq_false hbig]
   simp only [cond_false, Option.bind_some]
   rw [chk_t (by omega)]
   exact ⟨_, _, _, rfl, tmb _ hv.1, a0, by omega⟩
theorem one_d (n : Int) (hn : n ≤ 1000000) : Dr (fun c => F_spec_l1Cur_one c n) (fun _ => True) 2 := fun code a s k hb h0 h1 h2 => by
 obtain ⟨v, a', s', e, hv, a0, a1⟩ := pick_d n hn code a s k hb h0 h1 h2
 unfold F_spec_l1Cur_one
 simp only at e ⊢
 rw [e]
 exact ⟨_, _, _, rfl, trivial, a0, a1⟩
theorem among_d (l : List Int) (hl : 1 ≤ l.length ∧ l.length ≤ 1000) : Dr (fun c => F_spec_l1Cur_among c l) (fun v => v ∈ l) 2 := fun code a s k hb h0 h1 h2 => by
 obtain ⟨v, a', s', e, hv, a0, a1⟩ := pick_d (l.length : Int) (by omega) code a s k hb h0 h1 h2
 unfold F_spec_l1Cur_among
 simp only at e ⊢
 rw [e]
 obtain ⟨x, hx, hx2⟩ := getI_at (l := l) hv.1 (by omega)
 simp only [Option.bind_some, hx]
 exact ⟨_, _, _, rfl, List.mem_of_getElem? hx2, a0, a1⟩
theorem pick_lt {n v : Int} (h : 0 ≤ v ∧ (v < n ∨ v = 0)) (hn : 0 < n) : 0 ≤ v ∧ v < n := by omega
/-- A gate that is taken, over n wires. -/
def gOk (n : Int) (g : TGate) : Bool :=
 bif decide (1 ≤ g.Kind) && decide (g.Kind ≤ 8) then decide (0 ≤ g.A) && decide (g.A ≤ n - 1) && (g.B == 0)
 else bif decide (9 ≤ g.Kind) && decide (g.Kind ≤ 11) then decide (0 ≤ g.A) && decide (g.A ≤ n - 1) && (decide (0 ≤ g.B) && decide (g.B ≤ n - 1)) && (g.A != g.B)
 else (g.Kind == 12) && (g.A == 0) && (g.B == 0)
theorem spec_gate {n : Int} (hn : 1 ≤ n ∧ n ≤ 5) (g : TGate) : F_spec_l4Gate n g = some (gOk n g) := by
 unfold F_spec_l4Gate F_spec_l1In gOk
 rw [wrap_i64 (a := n - 1) ⟨by omega, by omega⟩]
 simp only [Option.bind_some, gb]
 cases decide (1 ≤ g.Kind) && decide (g.Kind ≤ 8) <;> cases decide (9 ≤ g.Kind) && decide (g.Kind ≤ 11) <;> simp only [cond_true, cond_false, Option.bind_some]
 all_goals cases decide (0 ≤ g.A) && decide (g.A ≤ n - 1) <;> simp
theorem impl_gate {n : Int} (hn : 1 ≤ n ∧ n ≤ 5) (g : TGate) : F_impl_IsValidGate n g = some (gOk n g) := by
 unfold F_impl_IsValidGate F_impl_isTwo F_impl_within gOk
 rw [wrap_i64 (a := n - 1) ⟨by omega, by omega⟩]
 have h1 : decide (1 ≤ n) = true := decide_eq_true hn.1
 have h5 : decide (n ≤ 5) = true := decide_eq_true hn.2
 simp only [Option.bind_some, gb, h1, h5, Bool.and_self, Bool.not_true, Bool.not_false, cond_true, Bool.false_or]
 by_cases hk : 1 ≤ g.Kind ∧ g.Kind ≤ 12
 ·have e1 : (decide (1 ≤ g.Kind) && decide (g.Kind ≤ 12)) = true := by simp [hk]
  simp only [e1, Bool.not_true, cond_false]
  by_cases h12 : g.Kind = 12
  ·simp [h12]
  ·have e12 : (g.Kind == 12) = false := by simp [h12]
   simp only [e12, cond_false]
   by_cases h9 : 9 ≤ g.Kind
   ·have a1 : (decide (9 ≤ g.Kind) && decide (g.Kind ≤ 11)) = true := by simp; omega
    have a2 : (decide (1 ≤ g.Kind) && decide (g.Kind ≤ 8)) = false := by simp; omega
    simp only [a1, a2, cond_true, cond_false]
    cases decide (0 ≤ g.A) && decide (g.A ≤ n - 1) <;> simp
   ·have a1 : (decide (9 ≤ g.Kind) && decide (g.Kind ≤ 11)) = false := by simp; omega
    have a2 : (decide (1 ≤ g.Kind) && decide (g.Kind ≤ 8)) = true := by simp; omega
    simp only [a1, a2, cond_true, cond_false]
 ·have e1 : (decide (1 ≤ g.Kind) && decide (g.Kind ≤ 12)) = false := by simp; omega
  have a1 : (decide (9 ≤ g.Kind) && decide (g.Kind ≤ 11)) = false := by simp; omega
  have a2 : (decide (1 ≤ g.Kind) && decide (g.Kind ≤ 8)) = false := by simp; omega
  have a3 : (g.Kind == 12) = false := by simp; omega
  simp [e1, a1, a2, a3]
/-- A circuit that is taken. -/
def cOk (c : TCircuit) : Bool := decide (1 ≤ c.Qubits) && decide (c.Qubits ≤ 5) && decide (c.Gates.length ≤ 400) && c.Gates.all (gOk c.Qubits)
theorem spec_good (c : TCircuit) : F_spec_l4Good c = some (cOk c) := by
 unfold F_spec_l4Good F_spec_l1In cOk
 simp only [Option.bind_some]
 by_cases hn : 1 ≤ c.Qubits ∧ c.Qubits ≤ 5
 ·by_cases hl : c.Gates.length ≤ 400
  ·have e : (!(decide (1 ≤ c.Qubits) && decide (c.Qubits ≤ 5)) || decide ((400 : Int) < (c.Gates.length : Int))) = false := by simp [hn]; omega
   rw [e, cond_false, chk_t (by omega)]
   rcases forX_any (f := F_spec_l4Good_l1 c) (l := c.Gates) (p := fun g => !gOk c.Qubits g) (q := fun _ => false) (fun i x hx => by
    unfold F_spec_l4Good_l1; simp only [getI_nat, hx, Option.bind_some, spec_gate hn]; cases gOk c.Qubits x <;> rfl) with ⟨h1, h2⟩ | ⟨h1, i, _, h2⟩
   ·rw [h2]
    have : c.Gates.all (gOk c.Qubits) = true := by rw [List.all_eq_true]; intro x hx; have := List.any_eq_false.1 h1 x hx; simpa using this
    simp [orR, hn, hl, this]
   ·rw [h2]
    have : c.Gates.all (gOk c.Qubits) = false := by
     obtain ⟨x, hx, hp⟩ := List.any_eq_true.1 h1
     rw [List.all_eq_false]; exact ⟨x, hx, by simpa using hp⟩
    simp [orR, this]
  ·have e : (!(decide (1 ≤ c.Qubits) && decide (c.Qubits ≤ 5)) || decide ((400 : Int) < (c.Gates.length : Int))) = true := by simp; omega
   rw [e, cond_true]
   simp [hl]
 ·have e : (!(decide (1 ≤ c.Qubits) && decide (c.Qubits ≤ 5)) || decide ((400 : Int) < (c.Gates.length : Int))) = true := by simp; omega
  rw [e, cond_true]
  have : (decide (1 ≤ c.Qubits) && decide (c.Qubits ≤ 5)) = false := by simp; omega
  simp [this]
theorem impl_good (c : TCircuit) (hlen : c.Gates.length ≤ 1048576) : F_impl_IsValidCircuit c = some (cOk c) := by
 unfold F_impl_IsValidCircuit F_impl_within cOk
 simp only [Option.bind_some]
 by_cases hn : 1 ≤ c.Qubits ∧ c.Qubits ≤ 5
 ·by_cases hl : c.Gates.length ≤ 400
  ·have e : (decide (1 ≤ c.Qubits) && decide (c.Qubits ≤ 5) && decide ((c.Gates.length : Int) ≤ 400)) = true := by simp [hn]; omega
   rw [e]
   have hf : ∀ i x, c.Gates[i]? = some x → F_slices_IndexFunc_impl_Gate_impl_Gate_l1 c.Gates (fun x_0 => F_impl_IsValidCircuit_1 x_0 c) i () = some (bif !gOk c.Qubits x then .rt (i : Int) else .nx ()) := fun i x hx => by
    unfold F_slices_IndexFunc_impl_Gate_impl_Gate_l1 F_impl_IsValidCircuit_1
    simp only [getI_nat, hx, Option.bind_some, impl_gate hn]
    cases gOk c.Qubits x <;> rfl
   unfold F_slices_ContainsFunc_impl_Gate_impl_Gate F_slices_IndexFunc_impl_Gate_impl_Gate
   rw [chk_t (by omega)]
   rcases forX_any hf with ⟨h1, h2⟩ | ⟨h1, i, _, h2⟩
   ·rw [h2]
    have : c.Gates.all (gOk c.Qubits) = true := by rw [List.all_eq_true]; intro x hx; have := List.any_eq_false.1 h1 x hx; simpa using this
    simp [orR, hn, hl, this, gb]
   ·rw [h2]
    have : c.Gates.all (gOk c.Qubits) = false := by
     obtain ⟨x, hx, hp⟩ := List.any_eq_true.1 h1
     rw [List.all_eq_false]; exact ⟨x, hx, by simpa using hp⟩
    simp [orR, this, gb]
  ·have e : (decide (1 ≤ c.Qubits) && decide (c.Qubits ≤ 5) && decide ((c.Gates.length : Int) ≤ 400)) = false := by simp; omega
   rw [e]
   simp [gb, hl]
 ·have this : (decide (1 ≤ c.Qubits) && decide (c.Qubits ≤ 5)) = false := by simp; omega
  simp [gb, this]
theorem gOk_cases {n : Int} {g : TGate} (h : gOk n g = true) : (1 ≤ g.Kind ∧ g.Kind ≤ 8 ∧ 0 ≤ g.A ∧ g.A ≤ n - 1) ∨ (9 ≤ g.Kind ∧ g.Kind ≤ 11 ∧ 0 ≤ g.A ∧ g.A ≤ n - 1 ∧ 0 ≤ g.B ∧ g.B ≤ n - 1 ∧ g.A ≠ g.B) ∨ g.Kind = 12 := by
 unfold gOk at h
 by_cases h1 : 1 ≤ g.Kind ∧ g.Kind ≤ 8
 ·have e : (decide (1 ≤ g.Kind) && decide (g.Kind ≤ 8)) = true := by simp [h1]
  rw [e, cond_true] at h
  simp at h
  exact .inl ⟨h1.1, h1.2, h.1.1, h.1.2⟩
 ·have e : (decide (1 ≤ g.Kind) && decide (g.Kind ≤ 8)) = false := by simp; omega
  rw [e, cond_false] at h
  by_cases h2 : 9 ≤ g.Kind ∧ g.Kind ≤ 11
  ·have e : (decide (9 ≤ g.Kind) && decide (g.Kind ≤ 11)) = true := by simp [h2]
   rw [e, cond_true] at h
   simp at h
   exact .inr (.inl ⟨h2.1, h2.2, h.1.1.1, h.1.1.2, h.1.2.1, h.1.2.2, h.2⟩)
  ·have e : (decide (9 ≤ g.Kind) && decide (g.Kind ≤ 11)) = false := by simp; omega
   rw [e, cond_false] at h
   simp at h
   exact .inr (.inr h.1.1)
def bi (i s : Nat) : Nat := (i >>> s) % 2
def fl (i s : Nat) : Nat := i ^^^ (2 ^ s)
theorem bit_small : ∀ (i : Fin 32) (s : Fin 5), bits .and .i64 (shrK .i64 (i.val : Int) (s.val : Int)) 1 = ((bi i.val s.val : Nat) : Int) := by decide +kernel
theorem fl_small : ∀ (i : Fin 32) (s : Fin 5), bits .xor .i64 (i.val : Int) (shlK .i64 1 (s.val : Int)) = ((fl i.val s.val : Nat) : Int) ∧ fl i.val s.val < 32 := by decide +kernel
theorem an_small : ∀ (r c : Fin 32) (s : Fin 5), (bits .andNot .i64 (bits .xor .i64 (r.val : Int) (c.val : Int)) (shlK .i64 1 (s.val : Int)) != 0) = !(decide (r.val = c.val) || decide (fl r.val s.val = c.val)) := by decide +kernel
theorem cx_small : ∀ (i j : Fin 32) (a b : Fin 5), a.val ≠ b.val → decide (i.val = if bi j.val a.val = 1 then fl j.val b.val else j.val) = decide ((if bi i.val a.val = 1 then fl i.val b.val else i.val) = j.val) := by decide +kernel
theorem sw_small : ∀ (i j : Fin 32) (a b : Fin 5), a.val ≠ b.val → decide (i.val = if bi j.val a.val ≠ bi j.val b.val then fl (fl j.val a.val) b.val else j.val) = decide ((if bi i.val a.val ≠ bi i.val b.val then fl (fl i.val a.val) b.val else i.val) = j.val) := by decide +kernel
def phD (k : Int) : TDyadic := (F_impl_phase k).getD dZero
theorem ph_small : ∀ k : Fin 9, F_spec_l2Power (k.val : Int) = some (phD k.val) ∧ F_impl_phase (k.val : Int) = some (phD k.val) ∧ dOk (phD k.val) = true := by decide +kernel
theorem bi_lt (i s : Nat) : bi i s < 2 := Nat.mod_lt _ (by decide)
def enD (k : Int) (a b : Nat) : TDyadic := (F_impl_entry k a b).getD dZero
theorem en_small : ∀ (k : Fin 9) (a b : Fin 2), 1 ≤ k.val → F_impl_entry (k.val : Int) (a.val : Int) (b.val : Int) = some (enD k.val a.val b.val) ∧
  ((F_spec_l6One (k.val : Int)).bind fun l => getI l (IntKind.i64.wrap (IntKind.i64.wrap (2 * (a.val : Int)) + (b.val : Int)))) = some (enD k.val a.val b.val) ∧ dOk (enD k.val a.val b.val) = true := by decide +kernel
theorem wru {a : Int} (h : 0 ≤ a ∧ a ≤ 9000000000000000000) : IntKind.u64.wrap a = a := by
 simp [IntKind.wrap, IntKind.signed, IntKind.bits]
 omega
section
variable {n a i : Nat}
theorem sp_bit (hn : n ≤ 5) (ha : a < n) (hi : i < 32) : F_spec_l6Bit n i a = some ((bi i (n - 1 - a) : Nat) : Int) := by
 unfold F_spec_l6Bit
 rw [wr (a := (n : Int) - 1) (by omega), wr (a := (n : Int) - 1 - a) (by omega), wru (a := (n : Int) - 1 - a) (by omega), chk_t (by omega), show (n : Int) - 1 - a = ((n - 1 - a : Nat) : Int) by omega]
 exact congrArg some (bit_small ⟨i, hi⟩ ⟨n - 1 - a, by omega⟩)
theorem im_bit (hn : n ≤ 5) (ha : a < n) (hi : i < 32) : F_impl_bitOf n i a = some ((bi i (n - 1 - a) : Nat) : Int) := by
 unfold F_impl_bitOf
 rw [wr (a := (n : Int) - 1) (by omega), wr (a := (n : Int) - 1 - a) (by omega), chk_t (by omega), show (n : Int) - 1 - a = ((n - 1 - a : Nat) : Int) by omega]
 exact congrArg some (bit_small ⟨i, hi⟩ ⟨n - 1 - a, by omega⟩)
theorem im_flip (hn : n ≤ 5) (ha : a < n) (hi : i < 32) : F_impl_flipped n i a = some ((fl i (n - 1 - a) : Nat) : Int) := by
 unfold F_impl_flipped
 rw [wr (a := (n : Int) - 1) (by omega), wr (a := (n : Int) - 1 - a) (by omega), chk_t (by omega), show (n : Int) - 1 - a = ((n - 1 - a : Nat) : Int) by omega]
 exact congrArg some (fl_small ⟨i, hi⟩ ⟨n - 1 - a, by omega⟩).1
theorem fl_lt (hn : n ≤ 5) (ha : a < n) (hi : i < 32) : fl i (n - 1 - a) < 32 := (fl_small ⟨i, hi⟩ ⟨n - 1 - a, by omega⟩).2
end
theorem ibeq (i j : Nat) : ((i : Int) == (j : Int)) = decide (i = j) := by
 rw [Bool.eq_iff_iff, beq_iff_eq, decide_eq_true_eq]; omega
theorem ibne (i j : Nat) : ((i : Int) != (j : Int)) = !decide (i = j) := by
 unfold bne; rw [ibeq]
theorem one_beq (i : Nat) : ((i : Int) == 1) = decide (i = 1) := ibeq i 1
theorem phk {k : Nat} (h : k < 9) : F_spec_l2Power (k : Int) = some (phD k) ∧ F_impl_phase (k : Int) = some (phD k) ∧ dOk (phD k) = true := ph_small ⟨k, h⟩
theorem sel_ok (b : Bool) {x : TDyadic} (h : dOk x = true) : dOk (bif b then x else dZero) = true := by cases b; exact dZero_ok; exact h
theorem bsomeT {b : Bool} {x : TDyadic} : (bif b then some x else some (TDyadic.mk (TRing.mk 0 0 0 0) 0)) = some (bif b then x else dZero) := by cases b <;> rfl
/-- A cell of a gate's matrix: both say the same. -/
theorem cell_both {n : Nat} (hn : 1 ≤ n ∧ n ≤ 5) {g : TGate} (hg : gOk n g = true) {i j : Nat} (hi : i < 32) (hj : j < 32) :
  ∃ z, F_spec_l6Cell n g i j = some z ∧ F_impl_GateMatrix_1 i j g n = some (z, true) ∧ dOk z = true := by
 obtain ⟨p0, q0, o0⟩ := phk (k := 0) (by decide)
 obtain ⟨p1, q1, o1⟩ := phk (k := 1) (by decide)
 obtain ⟨p4, q4, o4⟩ := phk (k := 4) (by decide)
 have p0 : F_spec_l2Power 0 = some (phD 0) := p0
 have p1 : F_spec_l2Power 1 = some (phD 1) := p1
 have q1 : F_impl_phase 1 = some (phD 1) := q1
 have p4 : F_spec_l2Power 4 = some (phD 4) := p4
 unfold F_spec_l6Cell F_impl_GateMatrix_1
 rw [p0]
 simp only [Option.bind_some]
 rcases gOk_cases hg with ⟨k1, k2, a1, a2⟩ | ⟨k1, k2, a1, a2, b1, b2, hab⟩ | hk
 ·-- on one wire
  obtain ⟨k, hk⟩ : ∃ k : Nat, g.Kind = k := ⟨g.Kind.toNat, by omega⟩
  obtain ⟨a, ha⟩ : ∃ a : Nat, g.A = a := ⟨g.A.toNat, by omega⟩
  have e12 : (g.Kind == 12) = false := by rw [hk]; exact decide_eq_false (by omega)
  have e9 : (g.Kind == 9) = false := by rw [hk]; exact decide_eq_false (by omega)
  have e10 : (g.Kind == 10) = false := by rw [hk]; exact decide_eq_false (by omega)
  have e11 : (g.Kind == 11) = false := by rw [hk]; exact decide_eq_false (by omega)
  have et : F_impl_isTwo g.Kind = some false := by
   unfold F_impl_isTwo F_impl_within
   rw [hk, decide_eq_false (show ¬ (9 : Int) ≤ (k : Int) by omega)]; rfl
  have hs : (n : Int) - 1 - a = ((n - 1 - a : Nat) : Int) := by omega
  simp only [e12, e9, e10, e11, cond_false, et, Option.bind_some]
  rw [ha, wr (a := (n : Int) - 1) (by omega), wr (a := (n : Int) - 1 - a) (by omega), wru (a := (n : Int) - 1 - a) (by omega), chk_t (by omega), hs,
   an_small ⟨i, hi⟩ ⟨j, hj⟩ ⟨n - 1 - a, by omega⟩]
  simp only
  rw [im_flip hn.2 (by omega) hi, ibeq]
  simp only [gb, sp_bit hn.2 (show a < n by omega) hi, sp_bit hn.2 (show a < n by omega) hj, im_bit hn.2 (show a < n by omega) hi, im_bit hn.2 (show a < n by omega) hj]
  obtain ⟨w1, w2, w3⟩ := en_small ⟨k, by omega⟩ ⟨bi i (n - 1 - a), bi_lt _ _⟩ ⟨bi j (n - 1 - a), bi_lt _ _⟩ (by simp only; omega)
  simp only at w1 w2 w3
  obtain ⟨l, w4, w5⟩ := Option.bind_eq_some_iff.1 w2
  by_cases hij : i = j
  ·rw [decide_eq_true hij]
   simp only [Bool.true_or, Bool.not_true, cond_false, cond_true, Option.bind_some]
   rw [hk, w4]
   simp only [Option.bind_some, w5, w1, orR]
   exact ⟨_, rfl, rfl, w3⟩
  ·rw [decide_eq_false hij]
   simp only [Bool.false_or, Bool.not_false, cond_true, Option.bind_some, ibeq]
   by_cases hf : fl i (n - 1 - a) = j
   ·rw [decide_eq_true hf]
    simp only [Bool.not_true, cond_false, cond_true]
    rw [hk, w4]
    simp only [Option.bind_some, w5, w1, orR]
    exact ⟨_, rfl, rfl, w3⟩
   ·rw [decide_eq_false hf]
    simp only [Bool.not_false, cond_false, cond_true, Option.bind_some, orR]
    exact ⟨_, rfl, rfl, dZero_ok⟩
 ·obtain ⟨a, ha⟩ : ∃ a : Nat, g.A = a := ⟨g.A.toNat, by omega⟩
  obtain ⟨b, hb⟩ : ∃ b : Nat, g.B = b := ⟨g.B.toNat, by omega⟩
  have hs : (n : Int) - 1 - a = ((n - 1 - a : Nat) : Int) := by omega
  have hs' : (n : Int) - 1 - b = ((n - 1 - b : Nat) : Int) := by omega
  have et : F_impl_isTwo g.Kind = some true := by
   unfold F_impl_isTwo F_impl_within
   rw [decide_eq_true k1, decide_eq_true k2]; rfl
  have e12 : (g.Kind == 12) = false := decide_eq_false (by omega)
  have c1 := sp_bit hn.2 (show a < n by omega) hj
  have c2 := sp_bit hn.2 (show b < n by omega) hj
  have d1 := im_bit hn.2 (show a < n by omega) hi
  have d2 := im_bit hn.2 (show b < n by omega) hi
  have hne : n - 1 - a ≠ n - 1 - b := by omega
  unfold F_impl_comesFrom
  rw [e12, et, ha, hb, c1, c2, d1, d2, wr (a := (n : Int) - 1) (by omega), wr (a := (n : Int) - 1 - a) (by omega), wru (a := (n : Int) - 1 - a) (by omega), wr (a := (n : Int) - 1 - b) (by omega), wru (a := (n : Int) - 1 - b) (by omega), hs, hs']
  simp only [cond_false, cond_true, Option.bind_some, gb]
  have : g.Kind = 9 ∨ g.Kind = 10 ∨ g.Kind = 11 := by omega
  rcases this with hk | hk | hk
  ·have hc := cx_small ⟨i, hi⟩ ⟨j, hj⟩ ⟨n - 1 - a, by omega⟩ ⟨n - 1 - b, by omega⟩ hne
   simp only at hc
   refine ⟨bif decide (i = if bi j (n - 1 - a) = 1 then fl j (n - 1 - b) else j) then phD 0 else dZero, ?_, ?_, sel_ok _ o0⟩
   ·rw [hk]
    simp only [show ((9 : Int) == 9) = true from rfl, cond_true, one_beq]
    by_cases h1 : bi j (n - 1 - a) = 1
    ·simp only [decide_eq_true h1, cond_true, if_pos h1]
     rw [chk_t (by omega), (fl_small ⟨j, hj⟩ ⟨n - 1 - b, by omega⟩).1]
     simp only [Option.bind_some, orR, ibeq]
     exact bsomeT
    ·simp only [decide_eq_false h1, cond_false, if_neg h1, Option.bind_some, orR, ibeq]
     exact bsomeT
   ·rw [hk, hc]
    simp only [show ((9 : Int) == 9) = true from rfl, show ((9 : Int) == 11) = false from rfl, show ((9 : Int) == 10) = false from rfl, Bool.true_and, Bool.false_and, cond_false, one_beq]
    have f1 := im_flip hn.2 (show b < n by omega) hi
    have hq : ∀ from_ : Nat, ((bif ((from_ : Int) == (j : Int)) then ((F_impl_small false).bind fun r_7 => (F_impl_phase (IntKind.i64.wrap (4 * r_7))).bind fun r_8 => (some (.inr (r_8, true)) : Option (Unit ⊕ (TDyadic × Bool)))) else some (.inl ())).bind <| orR fun _ => some (TDyadic.mk (TRing.mk 0 0 0 0) 0, true)) = some ((bif decide (from_ = j) then phD 0 else dZero), true) := fun from_ => by
     rw [ibeq]
     have q0' : F_impl_phase (IntKind.i64.wrap (4 * 0)) = some (phD 0) := q0
     cases decide (from_ = j) with
     | true => simp only [F_impl_small, cond_true, cond_false, Option.bind_some, q0', orR]
     | false => rfl
    by_cases h1 : bi i (n - 1 - a) = 1
    ·simp only [decide_eq_true h1, cond_true, if_pos h1, f1, Option.bind_some]
     exact hq _
    ·simp only [decide_eq_false h1, cond_false, if_neg h1, Option.bind_some]
     exact hq _
  ·refine ⟨bif decide (i = j) then (if bi j (n - 1 - a) = 1 ∧ bi j (n - 1 - b) = 1 then phD 4 else phD 0) else dZero, ?_, ?_, sel_ok _ (by split; exact o4; exact o0)⟩
   ·rw [hk]
    simp only [show ((10 : Int) == 9) = false from rfl, show ((10 : Int) == 10) = true from rfl, cond_true, cond_false, one_beq]
    by_cases h1 : bi j (n - 1 - a) = 1
    ·by_cases h2 : bi j (n - 1 - b) = 1
     ·simp only [decide_eq_true h1, one_beq, decide_eq_true h2, cond_true, Option.bind_some, Bool.and_self, p4, orR, ibeq, if_pos (And.intro h1 h2)]
      exact bsomeT
     ·simp only [decide_eq_true h1, one_beq, decide_eq_false h2, cond_true, Option.bind_some, Bool.and_false, cond_false, orR, ibeq, if_neg (show ¬ (bi j (n - 1 - a) = 1 ∧ bi j (n - 1 - b) = 1) from fun h => h2 h.2)]
      exact bsomeT
    ·simp only [decide_eq_false h1, cond_false, Option.bind_some, Bool.false_and, orR, ibeq, if_neg (show ¬ (bi j (n - 1 - a) = 1 ∧ bi j (n - 1 - b) = 1) from fun h => h1 h.1)]
     exact bsomeT
   ·rw [hk]
    simp only [show ((10 : Int) == 9) = false from rfl, show ((10 : Int) == 11) = false from rfl, show ((10 : Int) == 10) = true from rfl, Bool.true_and, Bool.false_and, cond_true, cond_false, one_beq, Option.bind_some, ibeq]
    by_cases hij : i = j
    ·subst hij
     have q4' : F_impl_phase (IntKind.i64.wrap (4 * 1)) = some (phD 4) := q4
     have q0' : F_impl_phase (IntKind.i64.wrap (4 * 0)) = some (phD 0) := q0
     by_cases h1 : bi i (n - 1 - a) = 1
     ·by_cases h2 : bi i (n - 1 - b) = 1
      ·simp only [decide_eq_true h1, one_beq, decide_eq_true h2, decide_true, cond_true, Option.bind_some, Bool.and_self, F_impl_small, q4', orR, if_pos (And.intro h1 h2)]
      ·simp only [decide_eq_true h1, one_beq, decide_eq_false h2, decide_true, cond_true, cond_false, Option.bind_some, Bool.and_false, F_impl_small, q0', orR, if_neg (show ¬ (bi i (n - 1 - a) = 1 ∧ bi i (n - 1 - b) = 1) from fun h => h2 h.2)]
     ·simp only [decide_eq_false h1, decide_true, cond_true, cond_false, Option.bind_some, Bool.false_and, F_impl_small, q0', orR, if_neg (show ¬ (bi i (n - 1 - a) = 1 ∧ bi i (n - 1 - b) = 1) from fun h => h1 h.1)]
    ·simp only [decide_eq_false hij, cond_false, Option.bind_some, orR]
     rfl
  ·have hc := sw_small ⟨i, hi⟩ ⟨j, hj⟩ ⟨n - 1 - a, by omega⟩ ⟨n - 1 - b, by omega⟩ hne
   simp only at hc
   refine ⟨bif decide (i = if bi j (n - 1 - a) ≠ bi j (n - 1 - b) then fl (fl j (n - 1 - a)) (n - 1 - b) else j) then phD 0 else dZero, ?_, ?_, sel_ok _ o0⟩
   ·rw [hk]
    simp only [show ((11 : Int) == 9) = false from rfl, show ((11 : Int) == 10) = false from rfl, show ((11 : Int) == 11) = true from rfl, cond_true, cond_false, ibne]
    by_cases h1 : bi j (n - 1 - a) = bi j (n - 1 - b)
    ·simp only [decide_eq_true h1, Bool.not_true, cond_false, if_neg (show ¬ (bi j (n - 1 - a) ≠ bi j (n - 1 - b)) from fun h => h h1), Option.bind_some, orR, ibeq]
     exact bsomeT
    ·simp only [decide_eq_false h1, Bool.not_false, cond_true, if_pos h1]
     rw [chk_t (by omega), chk_t (by omega), (fl_small ⟨j, hj⟩ ⟨n - 1 - a, by omega⟩).1]
     have hl := (fl_small ⟨j, hj⟩ ⟨n - 1 - a, by omega⟩).2
     rw [(fl_small ⟨fl j (n - 1 - a), hl⟩ ⟨n - 1 - b, by omega⟩).1]
     simp only [Option.bind_some, orR, ibeq]
     exact bsomeT
   ·rw [hk, hc]
    simp only [show ((11 : Int) == 9) = false from rfl, show ((11 : Int) == 11) = true from rfl, show ((11 : Int) == 10) = false from rfl, Bool.true_and, Bool.false_and, cond_false, ibne]
    have f1 := im_flip hn.2 (show a < n by omega) hi
    have f2 := im_flip hn.2 (show b < n by omega) (fl_lt hn.2 (show a < n by omega) hi)
    have hq : ∀ from_ : Nat, ((bif ((from_ : Int) == (j : Int)) then ((F_impl_small false).bind fun r_7 => (F_impl_phase (IntKind.i64.wrap (4 * r_7))).bind fun r_8 => (some (.inr (r_8, true)) : Option (Unit ⊕ (TDyadic × Bool)))) else some (.inl ())).bind <| orR fun _ => some (TDyadic.mk (TRing.mk 0 0 0 0) 0, true)) = some ((bif decide (from_ = j) then phD 0 else dZero), true) := fun from_ => by
     rw [ibeq]
     have q0' : F_impl_phase (IntKind.i64.wrap (4 * 0)) = some (phD 0) := q0
     cases decide (from_ = j) with
     | true => simp only [F_impl_small, cond_true, cond_false, Option.bind_some, q0', orR]
     | false => rfl
    by_cases h1 : bi i (n - 1 - a) = bi i (n - 1 - b)
    ·simp only [decide_eq_true h1, Bool.not_true, cond_false, if_neg (show ¬ (bi i (n - 1 - a) ≠ bi i (n - 1 - b)) from fun h => h h1), Option.bind_some]
     exact hq _
    ·simp only [decide_eq_false h1, Bool.not_false, cond_true, if_pos h1, f1, f2, Option.bind_some]
     exact hq _
 ·have e12 : (g.Kind == 12) = true := decide_eq_true hk
  simp only [e12, cond_true, p1, q1, Option.bind_some, orR, ibeq]
  cases decide (i = j) with
  | true => exact ⟨_, rfl, rfl, o1⟩
  | false => exact ⟨_, rfl, rfl, dZero_ok⟩

theorem pow_le {n : Nat} (hn : 1 ≤ n ∧ n ≤ 5) : 2 ≤ 2 ^ n ∧ 2 ^ n ≤ 32 := by
 have : n = 1 ∨ n = 2 ∨ n = 3 ∨ n = 4 ∨ n = 5 := by omega
 rcases this with rfl | rfl | rfl | rfl | rfl <;> decide
theorem pow_dim {n : Nat} (hn : 1 ≤ n ∧ n ≤ 5) : dimB ((2 ^ n : Nat) : Int) = true := by
 have : n = 1 ∨ n = 2 ∨ n = 3 ∨ n = 4 ∨ n = 5 := by omega
 rcases this with rfl | rfl | rfl | rfl | rfl <;> decide
theorem shl_u {n : Nat} (hn : 1 ≤ n ∧ n ≤ 5) : shlK .i64 1 (IntKind.u64.wrap (n : Int)) = ((2 ^ n : Nat) : Int) := by
 have : n = 1 ∨ n = 2 ∨ n = 3 ∨ n = 4 ∨ n = 5 := by omega
 rcases this with rfl | rfl | rfl | rfl | rfl <;> decide
theorem shl_i {n : Nat} (hn : 1 ≤ n ∧ n ≤ 5) : shlK .i64 1 (n : Int) = ((2 ^ n : Nat) : Int) := by
 have : n = 1 ∨ n = 2 ∨ n = 3 ∨ n = 4 ∨ n = 5 := by omega
 rcases this with rfl | rfl | rfl | rfl | rfl <;> decide
def gcD (n : Nat) (g : TGate) (i j : Nat) : TDyadic := (F_spec_l6Cell n g i j).getD dZero
theorem gc_both {n : Nat} (hn : 1 ≤ n ∧ n ≤ 5) {g : TGate} (hg : gOk n g = true) {i j : Nat} (hi : i < 2 ^ n) (hj : j < 2 ^ n) :
  F_spec_l6Cell n g i j = some (gcD n g i j) ∧ F_impl_GateMatrix_1 i j g n = some (gcD n g i j, true) ∧ dOk (gcD n g i j) = true := by
 have := (pow_le hn).2
 obtain ⟨z, h1, h2, h3⟩ := cell_both hn hg (i := i) (j := j) (by omega) (by omega)
 have e : gcD n g i j = z := by unfold gcD; rw [h1]; rfl
 rw [e]; exact ⟨h1, h2, h3⟩
def gL (n : Nat) (g : TGate) : List TDyadic := ((F_spec_l6Gate n g).getD (TMatrix.mk 0 0 [])).Cells
theorem gate_both {n : Nat} (hn : 1 ≤ n ∧ n ≤ 5) {g : TGate} (hg : gOk n g = true) :
  F_spec_l6Gate n g = some (TMatrix.mk (2 ^ n : Nat) (2 ^ n : Nat) (gL n g)) ∧ F_impl_GateMatrix n g = some (TMatrix.mk (2 ^ n : Nat) (2 ^ n : Nat) (gL n g), true) ∧ okD (gL n g) ∧ (gL n g).length = 2 ^ n * 2 ^ n := by
 have hp := pow_le hn
 have hd := pow_dim hn
 obtain ⟨l, g1, g2, g3⟩ := grid_pure (f := gcD n g) (2 ^ n) (2 ^ n) (fun i j hi hj => (gc_both hn hg hi hj).2.2)
 have hs : F_spec_l6Gate n g = some (TMatrix.mk (2 ^ n : Nat) (2 ^ n : Nat) l) := by
  unfold F_spec_l6Gate
  rw [chk_t (by rw [wru (by omega)]; omega), shl_u hn, Int.toNat_natCast]
  have hin : ∀ (i : Nat) (s : List TDyadic), i < 2 ^ n → s.length = i * 2 ^ n → forN (F_spec_l6Gate_l2 n g i) (2 ^ n) 0 s = forN (fun j l' => (some (gcD n g i j)).bind fun z => some (l' ++ [z])) (2 ^ n) 0 s := fun i s hi hs =>
   forN_eq (G := fun j (z : List TDyadic) => z.length = i * 2 ^ n + j) (n := 2 ^ n) (fun j z hj hz => by
    unfold F_spec_l6Gate_l2
    rw [(gc_both hn hg hi hj).1]
    simp only [Option.bind_some]
    have := grid_len hi hj hp.2 hp.2
    rw [chk_t (by omega)]
    exact ⟨rfl, fun z' h => by cases h; simp [hz]; omega⟩) (2 ^ n) 0 s (by omega) (by omega)
  rw [forN_eq (f := F_spec_l6Gate_l1 n g) (g := fun i l' => forN (fun j l' => (some (gcD n g i j)).bind fun z => some (l' ++ [z])) (2 ^ n) 0 l') (G := fun i (z : List TDyadic) => z.length = i * 2 ^ n) (n := 2 ^ n) (fun i z hi hz => by
   unfold F_spec_l6Gate_l1
   rw [shl_u hn, Int.toNat_natCast, chk_t (by omega), hin i z hi hz]
   constructor
   ·cases forN (fun j l' => (some (gcD n g i j)).bind fun z => some (l' ++ [z])) (2 ^ n) 0 z <;> rfl
   ·intro z' h
    obtain ⟨l', h1, h2⟩ := forN_inv (f := fun j l' => (some (gcD n g i j)).bind fun z => some (l' ++ [z])) (fun j w => w.length = i * 2 ^ n + j) (2 ^ n) 0 z (by omega) (fun j s _ _ hs => ⟨_, rfl, by simp [hs]; omega⟩)
    rw [h1] at h; cases h
    rw [h2, Nat.add_mul]; omega) (2 ^ n) 0 [] (by omega) (by simp)]
  unfold gridO at g1
  rw [g1, chk_t (by omega)]; rfl
 have hl : gL n g = l := by unfold gL; rw [hs]; rfl
 rw [hl]
 refine ⟨hs, ?_, g2, g3⟩
 have hv : F_impl_IsValidGate n g = some (gOk n g) := impl_gate (by omega) g
 unfold F_impl_GateMatrix
 rw [hv, hg]
 simp only [Option.bind_some, Bool.not_true, cond_false]
 rw [chk_t (by omega), chk_t (by omega), shl_i hn]
 rw [(im_matrixOf (cell := fun x_0 x_1 => F_impl_GateMatrix_1 x_0 x_1 g n) (cellO := fun i j => some (gcD n g i j)) hd hd hp.2 hp.2 (fun i j hi hj => ⟨(gc_both hn hg hi hj).2.1, fun z hz => by cases hz; exact (gc_both hn hg hi hj).2.2⟩)).1, g1]
 rfl
/-- One gate more. -/
def runS (n E : Nat) (gs : List TGate) (i : Nat) (l : List TDyadic) : Option (List TDyadic) := match gs[i]? with | some g => mmO (gL n g) l (2 ^ n) (2 ^ n) E | none => none
def runO (n E : Nat) (gs : List TGate) (l : List TDyadic) : Option (List TDyadic) := forN (runS n E gs) gs.length 0 l
section
variable {n E : Nat} {x : TCircuit}
theorem sp_run (hn : 1 ≤ n ∧ n ≤ 5) (hq : x.Qubits = (n : Int)) (hg : x.Gates.all (gOk n) = true) (hx : x.Gates.length ≤ 400) (hE : E ≤ 32) {l : List TDyadic} (ol : okD l) (ll : l.length = 2 ^ n * E) (c : Bool) :
  ∃ l' c', F_spec_l2C_run (cB c) x (TMatrix.mk (2 ^ n : Nat) E l) = some (TMatrix.mk (2 ^ n : Nat) E l', cB c') ∧ SR (fun l => okD l ∧ l.length = 2 ^ n * E) (runO n E x.Gates l) c l' c' := by
 have hp := pow_le hn
 obtain ⟨l', c', h1, h2⟩ := sr_it (f := F_spec_l2C_run_l1 x) (enc := fun b (l : List TDyadic) => (b, ((2 ^ n : Nat) : Int), (E : Int), l)) (G := fun _ l => okD l ∧ l.length = 2 ^ n * E) (st := runS n E x.Gates) (n := x.Gates.length) (fun i b s hi hs => by
  have hgi : gOk n x.Gates[i] = true := List.all_eq_true.1 hg _ (List.getElem_mem hi)
  have hr : runS n E x.Gates i s = mmO (gL n x.Gates[i]) s (2 ^ n) (2 ^ n) E := by unfold runS; rw [List.getElem?_eq_getElem hi]
  obtain ⟨g1, _, g3, g4⟩ := gate_both hn hgi
  unfold F_spec_l2C_run_l1
  simp only [getI_nat, List.getElem?_eq_getElem hi, Option.bind_some]
  cases b with
  | true => exact ⟨s, true, rfl, hs, fun h => h, fun h => by cases h⟩
  | false =>
   obtain ⟨z, b', t1, t2⟩ := sp_times (R := 2 ^ n) (K := 2 ^ n) (C := E) g3 hs.1 g4 hs.2 hp.2 hp.2 hE false
   refine ⟨z, b', ?_, by rw [hr]; exact t2⟩
   simp only [Bool.not_false, cond_true]
   rw [hq, g1]
   simp only [Option.bind_some]
   rw [show F_spec_l2C_times (Tl2C.mk false) (TMatrix.mk (2 ^ n : Nat) (2 ^ n : Nat) (gL n x.Gates[i])) (TMatrix.mk (2 ^ n : Nat) E s) = _ from t1]
   rfl) x.Gates.length 0 l c (by omega) ⟨ol, ll⟩
 refine ⟨l', c', ?_, h2⟩
 unfold F_spec_l2C_run
 rw [chk_t (by omega), show forN (F_spec_l2C_run_l1 x) x.Gates.length 0 ((cB c).bad, (TMatrix.mk (2 ^ n : Nat) E l).Rows, (TMatrix.mk (2 ^ n : Nat) E l).Cols, (TMatrix.mk (2 ^ n : Nat) E l).Cells) = _ from h1]
 rfl
theorem im_wh (hn : 1 ≤ n ∧ n ≤ 5) (hq : x.Qubits = (n : Int)) (hg : x.Gates.all (gOk n) = true) (hx : x.Gates.length ≤ 400) (dE : dimB (E : Int) = true) :
  ∀ (q m i : Nat) (l : List TDyadic), i + m = x.Gates.length → m + 1 < q → okD l → l.length = 2 ^ n * E →
   ∃ i', whX (F_impl_applied_l1 x) q (true, ((2 ^ n : Nat) : Int), (E : Int), l, (i : Int)) = some (.inl ((mR (2 ^ n) E (forN (runS n E x.Gates) m i l)).2, (mR (2 ^ n) E (forN (runS n E x.Gates) m i l)).1.Rows, (mR (2 ^ n) E (forN (runS n E x.Gates) m i l)).1.Cols, (mR (2 ^ n) E (forN (runS n E x.Gates) m i l)).1.Cells, i')) ∧
    ∀ z, forN (runS n E x.Gates) m i l = some z → okD z ∧ z.length = 2 ^ n * E
 | 0, _, _, _, _, hq', _, _ => absurd hq' (Nat.not_lt_zero _)
 | q + 1, 0, i, l, hm, _, ol, ll => by
  refine ⟨i, ?_, fun z hz => by cases hz; exact ⟨ol, ll⟩⟩
  simp only [whX]
  unfold F_impl_applied_l1
  simp only
  rw [decide_eq_false (show ¬ (i : Int) < (x.Gates.length : Int) by omega)]
  rfl
 | q + 1, m + 1, i, l, hm, hq', ol, ll => by
  have hp := pow_le hn
  have hi : i < x.Gates.length := by omega
  have hgi : gOk n x.Gates[i] = true := List.all_eq_true.1 hg _ (List.getElem_mem hi)
  obtain ⟨_, g2, g3, g4⟩ := gate_both hn hgi
  obtain ⟨i1, i2⟩ := im_mul (m_make (pow_dim hn) (pow_dim hn) g4 g3) (m_make (pow_dim hn) dE ll ol)
  have hr : runS n E x.Gates i l = mmO (gL n x.Gates[i]) l (2 ^ n) (2 ^ n) E := by unfold runS; rw [List.getElem?_eq_getElem hi]
  have hb : F_impl_applied_l1 x (true, ((2 ^ n : Nat) : Int), (E : Int), l, (i : Int)) = some (.nx ((mR (2 ^ n) E (mmO (gL n x.Gates[i]) l (2 ^ n) (2 ^ n) E)).2, (mR (2 ^ n) E (mmO (gL n x.Gates[i]) l (2 ^ n) (2 ^ n) E)).1.Rows, (mR (2 ^ n) E (mmO (gL n x.Gates[i]) l (2 ^ n) (2 ^ n) E)).1.Cols, (mR (2 ^ n) E (mmO (gL n x.Gates[i]) l (2 ^ n) (2 ^ n) E)).1.Cells, ((i + 1 : Nat) : Int))) := by
   unfold F_impl_applied_l1
   simp only
   rw [decide_eq_true (show (i : Int) < (x.Gates.length : Int) by omega), wr (a := (i : Int) + 1) (by omega)]
   simp only [Bool.and_self, cond_true, getI_nat, List.getElem?_eq_getElem hi, Option.bind_some]
   rw [hq, g2]
   simp only [Option.bind_some]
   rw [i1]
   rfl
  simp only [whX, hb, Option.bind_some, forN, hr]
  cases hc : mmO (gL n x.Gates[i]) l (2 ^ n) (2 ^ n) E with
  | none =>
   refine ⟨((i + 1 : Nat) : Int), ?_, fun z hz => by cases hz⟩
   simp only [mR, Option.bind_none]
   cases q with
   | zero => omega
   | succ q =>
    simp only [whX]
    unfold F_impl_applied_l1
    simp only [Bool.and_false, cond_false, Option.bind_some]
  | some z =>
   obtain ⟨z1, z2⟩ := i2 z hc
   exact im_wh hn hq hg hx dE q m (i + 1) z (by omega) (by omega) z1 z2
theorem im_run (hn : 1 ≤ n ∧ n ≤ 5) (hq : x.Qubits = (n : Int)) (hg : x.Gates.all (gOk n) = true) (hx : x.Gates.length ≤ 400) (dE : dimB (E : Int) = true) {l : List TDyadic} (ol : okD l) (ll : l.length = 2 ^ n * E) :
  F_impl_applied x (TMatrix.mk (2 ^ n : Nat) E l) true = some (mR (2 ^ n) E (runO n E x.Gates l)) ∧ ∀ z, runO n E x.Gates l = some z → okD z ∧ z.length = 2 ^ n * E := by
 obtain ⟨i', h1, h2⟩ := im_wh hn hq hg hx dE fuel x.Gates.length 0 l (by omega) (fuel_big (by omega)) ol ll
 refine ⟨?_, h2⟩
 unfold F_impl_applied
 simp only
 rw [show whX (F_impl_applied_l1 x) fuel (true, ((2 ^ n : Nat) : Int), (E : Int), l, 0) = _ from h1]
 rfl
end
theorem c_parts {c : TCircuit} (h : cOk c = true) : ∃ n : Nat, c.Qubits = (n : Int) ∧ (1 ≤ n ∧ n ≤ 5) ∧ c.Gates.length ≤ 400 ∧ c.Gates.all (gOk n) = true := by
 unfold cOk at h
 simp only [Bool.and_eq_true, decide_eq_true_eq] at h
 obtain ⟨⟨⟨h1, h2⟩, h3⟩, h4⟩ := h
 obtain ⟨n, hn⟩ : ∃ n : Nat, c.Qubits = n := ⟨c.Qubits.toNat, by omega⟩
 rw [hn] at h4
 exact ⟨n, hn, by omega, h3, h4⟩
/-- The operator of a circuit. -/
def opO (c : TCircuit) : Option (List TDyadic) := runO c.Qubits.toNat (2 ^ c.Qubits.toNat) c.Gates (unitL (2 ^ c.Qubits.toNat))
def opR (c : TCircuit) : TMatrix × Bool := if cOk c then mR (2 ^ c.Qubits.toNat) (2 ^ c.Qubits.toNat) (opO c) else (TMatrix.mk 0 0 [], false)
theorem op_both (c : TCircuit) (hl : c.Gates.length ≤ 1048576) : F_spec_OperatorOf c = some (opR c) ∧ F_impl_OperatorOf c = some (opR c) ∧ ∀ z, cOk c = true → opO c = some z → okD z ∧ z.length = 2 ^ c.Qubits.toNat * 2 ^ c.Qubits.toNat := by
 unfold F_spec_OperatorOf F_impl_OperatorOf opR opO
 rw [spec_good, impl_good c hl]
 cases hc : cOk c with
 | false => exact ⟨rfl, rfl, fun z h => by cases h⟩
 | true =>
  obtain ⟨n, hq, hn, hx, hg⟩ := c_parts hc
  have hp := pow_le hn
  have hd := pow_dim hn
  rw [hq]
  simp only [Option.bind_some, Bool.not_true, cond_false, if_true, Int.toNat_natCast]
  rw [chk_t (by rw [wru (by omega)]; omega), chk_t (by omega), shl_u hn, shl_i hn, unit_spec _ (dim_mem hd), unit_impl _ (dim_mem hd)]
  obtain ⟨l, b, s1, s2⟩ := sp_run hn hq hg hx hp.2 (unit_ok _) (unit_len _) false
  obtain ⟨i1, i2⟩ := im_run hn hq hg hx hd (unit_ok _) (unit_len _)
  simp only [Option.bind_some]
  rw [show F_spec_l2C_run (Tl2C.mk false) c (TMatrix.mk (2 ^ n : Nat) (2 ^ n : Nat) (unitL (2 ^ n))) = _ from s1, i1]
  refine ⟨?_, rfl, fun z _ hz => i2 z hz⟩
  simp only [Option.bind_some]
  rcases s2.good with ⟨p, rfl⟩ | ⟨p, rfl⟩
  ·rw [p]; rfl
  ·rw [p]; rfl

/-- No number, or a power of omega. -/
def pc (o : Option Nat) : TDyadic := match o with | none => dZero | some k => phD ((k % 8 : Nat) : Int)
theorem pc_ok (o : Option Nat) : dOk (pc o) = true := by
 cases o with
 | none => exact dZero_ok
 | some k => exact (phk (show k % 8 < 9 by omega)).2.2
theorem ph_mul_small : ∀ (a b : Fin 8), DM (phD (a.val : Int)) (phD (b.val : Int)) = some (phD (((a.val + b.val) % 8 : Nat) : Int)) ∧ DM (phD (a.val : Int)) dZero = some dZero ∧ DM dZero (phD (a.val : Int)) = some dZero := by decide +kernel
theorem zz_small : DM dZero dZero = some dZero ∧ DA dZero dZero = some dZero := by decide +kernel
theorem ph_add_small : ∀ (a : Fin 8), DA (phD (a.val : Int)) dZero = some (phD (a.val : Int)) := by decide +kernel
theorem pc_mul (a : Nat) (o : Option Nat) : DM (pc (some a)) (pc o) = some (pc (o.map fun x => a + x)) := by
 cases o with
 | none => exact (ph_mul_small ⟨a % 8, by omega⟩ 0).2.1
 | some b =>
  have := (ph_mul_small ⟨a % 8, by omega⟩ ⟨b % 8, by omega⟩).1
  simp only [pc, Option.map_some] at this ⊢
  rw [this, show (a % 8 + b % 8) % 8 = (a + b) % 8 by omega]
theorem pc_mulz (o : Option Nat) : DM dZero (pc o) = some dZero := by
 cases o with
 | none => exact zz_small.1
 | some b => exact (ph_mul_small ⟨b % 8, by omega⟩ 0).2.2
theorem pc_addz (o : Option Nat) : DA (pc o) dZero = some (pc o) := by
 cases o with
 | none => exact zz_small.2
 | some b => exact ph_add_small ⟨b % 8, by omega⟩
def pgrid (R C : Nat) (c : Nat → Nat → Option Nat) : List TDyadic := (List.range (R * C)).map fun p => pc (c (p / C) (p % C))
theorem pgrid_len (R C : Nat) (c : Nat → Nat → Option Nat) : (pgrid R C c).length = R * C := by simp [pgrid]
theorem div_ix {C i j : Nat} (hj : j < C) : (i * C + j) / C = i ∧ (i * C + j) % C = j := by
 have h : 0 < C := by omega
 constructor
 ·rw [Nat.mul_comm, Nat.mul_add_div h, Nat.div_eq_of_lt hj]; omega
 ·rw [Nat.mul_comm, Nat.mul_add_mod, Nat.mod_eq_of_lt hj]
theorem pgrid_get {R C i j : Nat} (c : Nat → Nat → Option Nat) (hi : i < R) (hj : j < C) : (pgrid R C c).getD (i * C + j) dZero = pc (c i j) := by
 obtain ⟨h1, h2⟩ := div_ix (i := i) hj
 rw [List.getD_eq_getElem?_getD, pgrid, List.getElem?_map, List.getElem?_range (ix_lt hi hj)]
 show pc (c ((i * C + j) / C) ((i * C + j) % C)) = _
 rw [h1, h2]
theorem pgrid_eq {R C : Nat} {l : List TDyadic} {c : Nat → Nat → Option Nat} (hl : l.length = R * C) (h : ∀ i j, i < R → j < C → l.getD (i * C + j) dZero = pc (c i j)) : l = pgrid R C c :=
 grid_ext hl (pgrid_len R C c) fun i j hi hj => by rw [h i j hi hj, pgrid_get c hi hj]
theorem pgrid_congr {R C : Nat} {c c' : Nat → Nat → Option Nat} (h : ∀ i j, i < R → j < C → pc (c i j) = pc (c' i j)) : pgrid R C c = pgrid R C c' :=
 pgrid_eq (pgrid_len R C c) fun i j hi hj => by rw [pgrid_get c hi hj, h i j hi hj]
/-- Cells that are all there. -/
theorem grid_is {cell : Nat → Nat → Option TDyadic} {R C : Nat} {c : Nat → Nat → Option Nat} (h : ∀ i j, i < R → j < C → cell i j = some (pc (c i j))) : gridO cell R C = some (pgrid R C c) := by
 obtain ⟨l, h1, _⟩ := forN_inv (f := fun i l => forN (fun j l => (cell i j).bind fun z => some (l ++ [z])) C 0 l) (fun _ _ => True) R 0 [] trivial (fun i s _ hi _ => by
  obtain ⟨l, h1, _⟩ := forN_inv (f := fun j l => (cell i j).bind fun z => some (l ++ [z])) (fun _ _ => True) C 0 s trivial (fun j s _ hj _ => ⟨_, by rw [h i j (by omega) (by omega)]; rfl, trivial⟩)
  exact ⟨l, h1, trivial⟩)
 have h2 : gridO cell R C = some l := h1
 obtain ⟨g1, g2⟩ := grid_get h2
 rw [h2, pgrid_eq g1 fun i j hi hj => Option.some.inj ((g2 i j hi hj).symm.trans (h i j hi hj))]
theorem dot_pick {X Y : Nat → TDyadic} {K s a : Nat} {o : Nat → Option Nat} (hs : s < K) (hX : ∀ k, k < K → X k = pc (if k = s then some a else none)) (hY : ∀ k, k < K → Y k = pc (o k)) : forN (dotS X Y) K 0 dZero = some (pc ((o s).map fun x => a + x)) := by
 obtain ⟨z, h1, h2⟩ := forN_inv (f := dotS X Y) (fun k z => z = if s < k then pc ((o s).map fun x => a + x) else dZero) K 0 dZero (by rw [if_neg (by omega)]) (fun k z _ hk hz => by
  subst hz
  unfold dotS
  rw [hX k (by omega), hY k (by omega)]
  by_cases hks : k = s
  ·subst hks
   rw [if_pos rfl, if_neg (by omega), if_pos (by omega), pc_mul]
   simp only [Option.bind_some]
   exact ⟨_, zero_add (pc_ok _), rfl⟩
  ·rw [if_neg hks]
   show ∃ s', ((DM dZero (pc (o k))).bind _) = some s' ∧ _
   rw [pc_mulz]
   simp only [Option.bind_some]
   by_cases hlt : s < k
   ·rw [if_pos hlt, if_pos (by omega)]
    exact ⟨_, pc_addz _, rfl⟩
   ·rw [if_neg hlt, if_neg (by omega)]
    exact ⟨_, zz_small.2, rfl⟩)
 rw [h1, h2, if_pos (by omega)]
/-- The cell of a matrix with one number a row. -/
def row1 (σ κ : Nat → Nat) (i j : Nat) : Option Nat := if j = σ i then some (κ i) else none
theorem pgrid_mul {R K C : Nat} {σ κ : Nat → Nat} {c : Nat → Nat → Option Nat} (hσ : ∀ i, i < R → σ i < K) : mmO (pgrid R K (row1 σ κ)) (pgrid K C c) R K C = some (pgrid R C fun i j => (c (σ i) j).map fun x => κ i + x) := by
 unfold mmO
 exact grid_is fun i j hi hj => by
  unfold mmCell
  exact dot_pick (o := fun k => c k j) (hσ i hi) (fun k hk => pgrid_get _ hi hk) (fun k hk => pgrid_get _ hk hj)
theorem unit_pgrid : ∀ n ∈ [1, 2, 4, 8, 16, 32], unitL n = pgrid n n (row1 id fun _ => 0) := by decide +kernel
def gsg (n : Nat) (g : TGate) (i : Nat) : Nat :=
 if g.Kind = 2 ∨ g.Kind = 3 then fl i (n - 1 - g.A.toNat) else
 if g.Kind = 9 then (if bi i (n - 1 - g.A.toNat) = 1 then fl i (n - 1 - g.B.toNat) else i) else
 if g.Kind = 11 then (if bi i (n - 1 - g.A.toNat) ≠ bi i (n - 1 - g.B.toNat) then fl (fl i (n - 1 - g.A.toNat)) (n - 1 - g.B.toNat) else i) else i
def kap (k b : Nat) : Nat := if k = 3 then (if b = 1 then 2 else 6) else if k = 4 then 4 * b else if k = 5 then 2 * b else if k = 6 then 6 * b else if k = 7 then b else if k = 8 then 7 * b else 0
def gka (n : Nat) (g : TGate) (i : Nat) : Nat :=
 if g.Kind = 10 then (if bi i (n - 1 - g.A.toNat) = 1 ∧ bi i (n - 1 - g.B.toNat) = 1 then 4 else 0) else
 if g.Kind = 12 then 1 else
 if g.Kind ≤ 8 then kap g.Kind.toNat (bi i (n - 1 - g.A.toNat)) else 0
theorem en_val : ∀ (k : Fin 9) (a b : Fin 2), 2 ≤ k.val → enD k.val a.val b.val = pc (if k.val = 2 ∨ k.val = 3 then (if a.val = b.val then none else some (kap k.val a.val)) else if a.val = b.val then some (kap k.val a.val) else none) := by decide +kernel
theorem fl_bit : ∀ (i : Fin 32) (s : Fin 5), bi (fl i.val s.val) s.val ≠ bi i.val s.val ∧ fl i.val s.val ≠ i.val := by decide +kernel
theorem fl_dim : ∀ (n : Fin 6) (i : Fin 32) (s : Fin 5), i.val < 2 ^ n.val → s.val < n.val → fl i.val s.val < 2 ^ n.val := by decide +kernel
theorem gsg_lt {n : Nat} (hn : 1 ≤ n ∧ n ≤ 5) {g : TGate} (hg : gOk n g = true) {i : Nat} (hi : i < 2 ^ n) : gsg n g i < 2 ^ n := by
 have h32 := (pow_le hn).2
 have key : ∀ {i s : Nat}, i < 2 ^ n → s < n → fl i s < 2 ^ n := fun {i s} hi hs => fl_dim ⟨n, by omega⟩ ⟨i, by omega⟩ ⟨s, by omega⟩ hi hs
 unfold gsg
 split
 ·exact key hi (by omega)
 ·split
  ·split
   ·exact key hi (by omega)
   ·exact hi
  ·split
   ·split
    ·exact key (key hi (by omega)) (by omega)
    ·exact hi
   ·exact hi
theorem sg_cell {n : Nat} (hn : 1 ≤ n ∧ n ≤ 5) {g : TGate} (hg : gOk n g = true) (hk1 : g.Kind ≠ 1) {i j : Nat} (hi : i < 2 ^ n) (hj : j < 2 ^ n) : F_spec_l6Cell n g i j = some (pc (row1 (gsg n g) (gka n g) i j)) := by
 have h32 := (pow_le hn).2
 have hi' : i < 32 := by omega
 have hj' : j < 32 := by omega
 have p0 : F_spec_l2Power 0 = some (phD 0) := (phk (k := 0) (by decide)).1
 have p1 : F_spec_l2Power 1 = some (phD 1) := (phk (k := 1) (by decide)).1
 have p4 : F_spec_l2Power 4 = some (phD 4) := (phk (k := 4) (by decide)).1
 unfold F_spec_l6Cell row1 gsg gka
 rw [p0]
 simp only [Option.bind_some]
 rcases gOk_cases hg with ⟨k1, k2, a1, a2⟩ | ⟨k1, k2, a1, a2, b1, b2, hab⟩ | hk
 ·obtain ⟨k, hk⟩ : ∃ k : Nat, g.Kind = k := ⟨g.Kind.toNat, by omega⟩
  obtain ⟨a, ha⟩ : ∃ a : Nat, g.A = a := ⟨g.A.toNat, by omega⟩
  have e12 : (g.Kind == 12) = false := by rw [hk]; exact decide_eq_false (by omega)
  have e9 : (g.Kind == 9) = false := by rw [hk]; exact decide_eq_false (by omega)
  have e10 : (g.Kind == 10) = false := by rw [hk]; exact decide_eq_false (by omega)
  have e11 : (g.Kind == 11) = false := by rw [hk]; exact decide_eq_false (by omega)
  have hs : (n : Int) - 1 - a = ((n - 1 - a : Nat) : Int) := by omega
  simp only [e12, e9, e10, e11, cond_false]
  rw [ha, wr (a := (n : Int) - 1) (by omega), wr (a := (n : Int) - 1 - a) (by omega), wru (a := (n : Int) - 1 - a) (by omega), chk_t (by omega), hs,
   an_small ⟨i, hi'⟩ ⟨j, hj'⟩ ⟨n - 1 - a, by omega⟩]
  simp only
  rw [sp_bit hn.2 (show a < n by omega) hi', sp_bit hn.2 (show a < n by omega) hj']
  obtain ⟨w1, w2, w3⟩ := en_small ⟨k, by omega⟩ ⟨bi i (n - 1 - a), bi_lt _ _⟩ ⟨bi j (n - 1 - a), bi_lt _ _⟩ (by simp only; omega)
  have w4 := en_val ⟨k, by omega⟩ ⟨bi i (n - 1 - a), bi_lt _ _⟩ ⟨bi j (n - 1 - a), bi_lt _ _⟩ (by simp only; omega)
  simp only at w2 w4
  obtain ⟨l, w5, w6⟩ := Option.bind_eq_some_iff.1 w2
  have hb := fl_bit ⟨i, hi'⟩ ⟨n - 1 - a, by omega⟩
  simp only at hb
  have t1 : g.Kind.toNat = k := by omega
  have t2 : (a : Int).toNat = a := Int.toNat_natCast a
  rw [t1, t2, if_neg (show ¬ g.Kind = 10 by omega), if_neg (show ¬ g.Kind = 12 by omega), if_pos (show g.Kind ≤ 8 by omega), if_neg (show ¬ g.Kind = 9 by omega), if_neg (show ¬ g.Kind = 11 by omega)]
  have val : ∀ z, (z = if i = j ∨ fl i (n - 1 - a) = j then enD k (bi i (n - 1 - a)) (bi j (n - 1 - a)) else dZero) → z = pc (if j = (if g.Kind = 2 ∨ g.Kind = 3 then fl i (n - 1 - a) else i) then some (kap k (bi i (n - 1 - a))) else none) := fun z hz => by
   rw [hz, w4]
   by_cases hx : k = 2 ∨ k = 3
   ·have e1 : (if g.Kind = 2 ∨ g.Kind = 3 then fl i (n - 1 - a) else i) = fl i (n - 1 - a) := if_pos (by omega)
    have e2 : (if k = 2 ∨ k = 3 then if bi i (n - 1 - a) = bi j (n - 1 - a) then none else some (kap k (bi i (n - 1 - a))) else if bi i (n - 1 - a) = bi j (n - 1 - a) then some (kap k (bi i (n - 1 - a))) else none) = (if bi i (n - 1 - a) = bi j (n - 1 - a) then none else some (kap k (bi i (n - 1 - a)))) := if_pos hx
    rw [e1, e2]
    by_cases hf : fl i (n - 1 - a) = j
    ·have e3 : (if bi i (n - 1 - a) = bi j (n - 1 - a) then none else some (kap k (bi i (n - 1 - a)))) = some (kap k (bi i (n - 1 - a))) := if_neg (by rw [← hf]; exact fun h => hb.1 h.symm)
     rw [e3, if_pos (.inr hf), if_pos hf.symm]
    ·have e4 : (if j = fl i (n - 1 - a) then some (kap k (bi i (n - 1 - a))) else none) = none := if_neg (fun h => hf h.symm)
     rw [e4]
     by_cases hij : i = j
     ·have e3 : (if bi i (n - 1 - a) = bi j (n - 1 - a) then none else some (kap k (bi i (n - 1 - a)))) = none := if_pos (by rw [hij])
      rw [e3, if_pos (.inl hij)]
     ·rw [if_neg (show ¬ (i = j ∨ fl i (n - 1 - a) = j) by intro h; rcases h with h | h <;> contradiction)]; rfl
   ·have e1 : (if g.Kind = 2 ∨ g.Kind = 3 then fl i (n - 1 - a) else i) = i := if_neg (by omega)
    have e2 : (if k = 2 ∨ k = 3 then if bi i (n - 1 - a) = bi j (n - 1 - a) then none else some (kap k (bi i (n - 1 - a))) else if bi i (n - 1 - a) = bi j (n - 1 - a) then some (kap k (bi i (n - 1 - a))) else none) = (if bi i (n - 1 - a) = bi j (n - 1 - a) then some (kap k (bi i (n - 1 - a))) else none) := if_neg hx
    rw [e1, e2]
    by_cases hij : i = j
    ·have e3 : (if bi i (n - 1 - a) = bi j (n - 1 - a) then some (kap k (bi i (n - 1 - a))) else none) = some (kap k (bi i (n - 1 - a))) := if_pos (by rw [hij])
     rw [e3, if_pos (.inl hij), if_pos hij.symm]
    ·have e4 : (if j = i then some (kap k (bi i (n - 1 - a))) else none) = none := if_neg (fun h => hij h.symm)
     rw [e4]
     by_cases hf : fl i (n - 1 - a) = j
     ·have e3 : (if bi i (n - 1 - a) = bi j (n - 1 - a) then some (kap k (bi i (n - 1 - a))) else none) = none := if_neg (by rw [← hf]; exact fun h => hb.1 h.symm)
      rw [e3, if_pos (.inr hf)]
     ·rw [if_neg (show ¬ (i = j ∨ fl i (n - 1 - a) = j) by intro h; rcases h with h | h <;> contradiction)]; rfl
  by_cases hij : i = j
  ·rw [decide_eq_true hij]
   simp only [Bool.true_or, Bool.not_true, cond_false]
   rw [hk, w5]
   simp only [Option.bind_some, w6, orR, Option.some.injEq]
   have hh := val _ (if_pos (.inl hij)).symm
   rw [hk] at hh
   exact hh
  ·rw [decide_eq_false hij]
   by_cases hf : fl i (n - 1 - a) = j
   ·rw [decide_eq_true hf]
    simp only [Bool.or_true, Bool.not_true, cond_false]
    rw [hk, w5]
    simp only [Option.bind_some, w6, orR, Option.some.injEq]
    have hh := val _ (if_pos (.inr hf)).symm
    rw [hk] at hh
    exact hh
   ·rw [decide_eq_false hf]
    simp only [Bool.or_self, Bool.not_false, cond_true, Option.bind_some, orR, Option.some.injEq]
    exact val _ (by rw [if_neg (by intro h; rcases h with h | h <;> contradiction)]; rfl)
 ·obtain ⟨a, ha⟩ : ∃ a : Nat, g.A = a := ⟨g.A.toNat, by omega⟩
  obtain ⟨b, hb⟩ : ∃ b : Nat, g.B = b := ⟨g.B.toNat, by omega⟩
  have hs : (n : Int) - 1 - a = ((n - 1 - a : Nat) : Int) := by omega
  have hs' : (n : Int) - 1 - b = ((n - 1 - b : Nat) : Int) := by omega
  have e12 : (g.Kind == 12) = false := decide_eq_false (by omega)
  have c1 := sp_bit hn.2 (show a < n by omega) hj'
  have c2 := sp_bit hn.2 (show b < n by omega) hj'
  have hne : n - 1 - a ≠ n - 1 - b := by omega
  have fin_ : ∀ (t : Nat) (c : Bool) (z : TDyadic), (c = decide (t = j)) → (bif c then z else dZero) = if j = t then z else dZero := fun t c z h => by
   rw [h]
   by_cases e : t = j
   ·rw [decide_eq_true e, if_pos e.symm]; rfl
   ·rw [decide_eq_false e, if_neg (fun h => e h.symm)]; rfl
  have sel : ∀ (t k : Nat), (if j = t then phD ((k % 8 : Nat) : Int) else dZero) = pc (if j = t then some k else none) := fun t k => by split <;> rfl
  rw [e12, ha, hb, c1, c2, wr (a := (n : Int) - 1) (by omega), wr (a := (n : Int) - 1 - a) (by omega), wru (a := (n : Int) - 1 - a) (by omega), wr (a := (n : Int) - 1 - b) (by omega), wru (a := (n : Int) - 1 - b) (by omega), hs, hs', Int.toNat_natCast, Int.toNat_natCast]
  simp only [cond_false, Option.bind_some, gb]
  rw [if_neg (show ¬ (g.Kind = 2 ∨ g.Kind = 3) by omega), if_neg (show ¬ g.Kind = 12 by omega), if_neg (show ¬ g.Kind ≤ 8 by omega)]
  have : g.Kind = 9 ∨ g.Kind = 10 ∨ g.Kind = 11 := by omega
  rcases this with hk | hk | hk
  ·have hc := cx_small ⟨i, hi'⟩ ⟨j, hj'⟩ ⟨n - 1 - a, by omega⟩ ⟨n - 1 - b, by omega⟩ hne
   simp only at hc
   rw [hk, if_pos (show (9 : Int) = 9 from rfl), if_neg (show ¬ (9 : Int) = 10 by decide)]
   have e := (fin_ _ _ (phD ((0 % 8 : Nat) : Int)) hc).trans (sel _ 0)
   simp only [show ((9 : Int) == 9) = true from rfl, cond_true, one_beq]
   by_cases h1 : bi j (n - 1 - a) = 1
   ·rw [if_pos h1] at e
    simp only [decide_eq_true h1, cond_true]
    rw [chk_t (by omega), (fl_small ⟨j, hj'⟩ ⟨n - 1 - b, by omega⟩).1]
    simp only [Option.bind_some, orR, ibeq]
    rw [← e]; exact bsomeT
   ·rw [if_neg h1] at e
    simp only [decide_eq_false h1, cond_false, Option.bind_some, orR, ibeq]
    rw [← e]; exact bsomeT
  ·rw [hk, if_neg (show ¬ (10 : Int) = 9 by decide), if_neg (show ¬ (10 : Int) = 11 by decide), if_pos (show (10 : Int) = 10 from rfl)]
   simp only [show ((10 : Int) == 9) = false from rfl, show ((10 : Int) == 10) = true from rfl, cond_true, cond_false, one_beq]
   by_cases hij : i = j
   ·subst hij
    rw [if_pos rfl]
    by_cases h1 : bi i (n - 1 - a) = 1
    ·by_cases h2 : bi i (n - 1 - b) = 1
     ·simp only [decide_eq_true h1, one_beq, decide_eq_true h2, cond_true, Option.bind_some, Bool.and_self, p4, orR, ibeq, decide_true, if_pos (And.intro h1 h2)]
      rfl
     ·simp only [decide_eq_true h1, one_beq, decide_eq_false h2, cond_true, Option.bind_some, Bool.and_false, cond_false, orR, ibeq, decide_true, if_neg (show ¬ (bi i (n - 1 - a) = 1 ∧ bi i (n - 1 - b) = 1) from fun h => h2 h.2)]
      rfl
    ·simp only [decide_eq_false h1, cond_false, cond_true, Option.bind_some, Bool.false_and, orR, ibeq, decide_true, if_neg (show ¬ (bi i (n - 1 - a) = 1 ∧ bi i (n - 1 - b) = 1) from fun h => h1 h.1)]
     rfl
   ·rw [if_neg (fun h => hij h.symm)]
    have fz : ∀ {A B C D E : Int}, (bif (decide (i = j)) then some (TDyadic.mk (TRing.mk A B C D) E) else some (TDyadic.mk (TRing.mk 0 0 0 0) 0)) = some (pc none) := fun {A B C D E} => by rw [decide_eq_false hij]; rfl
    by_cases h1 : bi j (n - 1 - a) = 1
    ·by_cases h2 : bi j (n - 1 - b) = 1
     ·simp only [decide_eq_true h1, one_beq, decide_eq_true h2, cond_true, Option.bind_some, Bool.and_self, p4, orR, ibeq]
      exact fz
     ·simp only [decide_eq_true h1, one_beq, decide_eq_false h2, cond_true, Option.bind_some, Bool.and_false, cond_false, orR, ibeq]
      exact fz
    ·simp only [decide_eq_false h1, cond_false, Option.bind_some, Bool.false_and, orR, ibeq]
     exact fz
  ·have hc := sw_small ⟨i, hi'⟩ ⟨j, hj'⟩ ⟨n - 1 - a, by omega⟩ ⟨n - 1 - b, by omega⟩ hne
   simp only at hc
   rw [hk, if_neg (show ¬ (11 : Int) = 9 by decide), if_pos (show (11 : Int) = 11 from rfl), if_neg (show ¬ (11 : Int) = 10 by decide)]
   have e := (fin_ _ _ (phD ((0 % 8 : Nat) : Int)) hc).trans (sel _ 0)
   simp only [show ((11 : Int) == 9) = false from rfl, show ((11 : Int) == 10) = false from rfl, show ((11 : Int) == 11) = true from rfl, cond_true, cond_false, ibne]
   by_cases h1 : bi j (n - 1 - a) = bi j (n - 1 - b)
   ·rw [if_neg (show ¬ (bi j (n - 1 - a) ≠ bi j (n - 1 - b)) from fun h => h h1)] at e
    simp only [decide_eq_true h1, Bool.not_true, cond_false, Option.bind_some, orR, ibeq]
    rw [← e]; exact bsomeT
   ·rw [if_pos h1] at e
    simp only [decide_eq_false h1, Bool.not_false, cond_true]
    rw [chk_t (by omega), chk_t (by omega), (fl_small ⟨j, hj'⟩ ⟨n - 1 - a, by omega⟩).1]
    have hl := (fl_small ⟨j, hj'⟩ ⟨n - 1 - a, by omega⟩).2
    rw [(fl_small ⟨fl j (n - 1 - a), hl⟩ ⟨n - 1 - b, by omega⟩).1]
    simp only [Option.bind_some, orR, ibeq]
    rw [← e]; exact bsomeT
 ·have e12 : (g.Kind == 12) = true := decide_eq_true hk
  simp only [e12, cond_true, p1, Option.bind_some, orR, ibeq]
  rw [if_neg (show ¬ (g.Kind = 2 ∨ g.Kind = 3) by omega), if_neg (show ¬ g.Kind = 9 by omega), if_neg (show ¬ g.Kind = 11 by omega), if_neg (show ¬ g.Kind = 10 by omega), if_pos hk]
  by_cases h2 : i = j
  ·simp only [decide_eq_true h2, cond_true]
   rw [if_pos h2.symm]; rfl
  ·simp only [decide_eq_false h2, cond_false]
   rw [if_neg (fun h => h2 h.symm)]; rfl
theorem sg_gate {n : Nat} (hn : 1 ≤ n ∧ n ≤ 5) {g : TGate} (hg : gOk n g = true) (hk1 : g.Kind ≠ 1) : F_spec_l6Gate n g = some (TMatrix.mk (2 ^ n : Nat) (2 ^ n : Nat) (pgrid (2 ^ n) (2 ^ n) (row1 (gsg n g) (gka n g)))) := by
 have hp := pow_le hn
 unfold F_spec_l6Gate
 rw [chk_t (by rw [wru (by omega)]; omega), shl_u hn, Int.toNat_natCast]
 have hin : ∀ (i : Nat) (s : List TDyadic), i < 2 ^ n → s.length = i * 2 ^ n → forN (F_spec_l6Gate_l2 n g i) (2 ^ n) 0 s = forN (fun j l' => (some (pc (row1 (gsg n g) (gka n g) i j))).bind fun z => some (l' ++ [z])) (2 ^ n) 0 s := fun i s hi hs =>
  forN_eq (G := fun j (z : List TDyadic) => z.length = i * 2 ^ n + j) (n := 2 ^ n) (fun j z hj hz => by
   unfold F_spec_l6Gate_l2
   rw [sg_cell hn hg hk1 hi hj]
   simp only [Option.bind_some]
   have := grid_len hi hj hp.2 hp.2
   rw [chk_t (by omega)]
   exact ⟨rfl, fun z' h => by cases h; simp [hz]; omega⟩) (2 ^ n) 0 s (by omega) (by omega)
 rw [forN_eq (f := F_spec_l6Gate_l1 n g) (g := fun i l' => forN (fun j l' => (some (pc (row1 (gsg n g) (gka n g) i j))).bind fun z => some (l' ++ [z])) (2 ^ n) 0 l') (G := fun i (z : List TDyadic) => z.length = i * 2 ^ n) (n := 2 ^ n) (fun i z hi hz => by
  unfold F_spec_l6Gate_l1
  rw [shl_u hn, Int.toNat_natCast, chk_t (by omega), hin i z hi hz]
  constructor
  ·cases forN (fun j l' => (some (pc (row1 (gsg n g) (gka n g) i j))).bind fun z => some (l' ++ [z])) (2 ^ n) 0 z <;> rfl
  ·intro z' h
   obtain ⟨l', h1, h2⟩ := forN_inv (f := fun j l' => (some (pc (row1 (gsg n g) (gka n g) i j))).bind fun z => some (l' ++ [z])) (fun j w => w.length = i * 2 ^ n + j) (2 ^ n) 0 z (by omega) (fun j s _ _ hs => ⟨_, rfl, by simp [hs]; omega⟩)
   rw [h1] at h; cases h
   rw [h2, Nat.add_mul]; omega) (2 ^ n) 0 [] (by omega) (by simp)]
 have hg1 := grid_is (cell := fun i j => some (pc (row1 (gsg n g) (gka n g) i j))) (R := 2 ^ n) (C := 2 ^ n) (c := row1 (gsg n g) (gka n g)) (fun i j _ _ => rfl)
 unfold gridO at hg1
 rw [hg1, chk_t (by omega)]; rfl
/-- The column of row i, and its power, behind some gates. -/
def csg (n : Nat) : List TGate → Nat → Nat
 | [], i => i
 | g :: t, i => gsg n g (csg n t i)
def cka (n : Nat) : List TGate → Nat → Nat
 | [], _ => 0
 | g :: t, i => cka n t i + gka n g (csg n t i)
theorem forN_shift {σ : Type} {f : Nat → σ → Option σ} : ∀ (k i : Nat) (s : σ), forN f k (i + 1) s = forN (fun j => f (j + 1)) k i s
 | 0, _, _ => rfl
 | k + 1, i, s => by
  show (f (i + 1) s).bind _ = (f (i + 1) s).bind _
  cases f (i + 1) s with
  | none => rfl
  | some z => exact forN_shift k (i + 1) z
theorem run_cons (n E : Nat) (g : TGate) (t : List TGate) (l : List TDyadic) : runO n E (g :: t) l = (mmO (gL n g) l (2 ^ n) (2 ^ n) E).bind fun z => runO n E t z := by
 unfold runO
 show (runS n E (g :: t) 0 l).bind _ = _
 have : runS n E (g :: t) 0 l = mmO (gL n g) l (2 ^ n) (2 ^ n) E := rfl
 rw [this]
 congr 1
 funext z
 show forN (runS n E (g :: t)) t.length (0 + 1) z = _
 rw [forN_shift]
 rfl
theorem g_inv : ∀ (n : Fin 6) (i : Fin 32) (s t : Fin 5), fl (fl i.val s.val) s.val = i.val := by decide +kernel
theorem fl_fl {i s : Nat} (hi : i < 32) (hs : s < 5) : fl (fl i s) s = i := g_inv 0 ⟨i, hi⟩ ⟨s, hs⟩ 0
theorem fl_far : ∀ (i : Fin 32) (s t : Fin 5), s.val ≠ t.val → bi (fl i.val s.val) t.val = bi i.val t.val ∧ bi (fl i.val s.val) s.val = 1 - bi i.val s.val := by decide +kernel
theorem fl_comm : ∀ (i : Fin 32) (s t : Fin 5), fl (fl i.val s.val) t.val = fl (fl i.val t.val) s.val := by decide +kernel
theorem fl_32 : ∀ (i : Fin 32) (s : Fin 5), fl i.val s.val < 32 := by decide +kernel
/-- A gate's permutation is its own inverse. -/
theorem gsg_gsg {n : Nat} (hn : 1 ≤ n ∧ n ≤ 5) {g : TGate} (hg : gOk n g = true) {i : Nat} (hi : i < 2 ^ n) : gsg n g (gsg n g i) = i := by
 have h32 := (pow_le hn).2
 have hi' : i < 32 := by omega
 rcases gOk_cases hg with ⟨k1, k2, a1, a2⟩ | ⟨k1, k2, a1, a2, b1, b2, hab⟩ | hk
 ·obtain ⟨a, ha⟩ : ∃ a : Nat, g.A = a := ⟨g.A.toNat, by omega⟩
  unfold gsg
  rw [ha, Int.toNat_natCast, if_neg (show ¬ g.Kind = 9 by omega), if_neg (show ¬ g.Kind = 11 by omega)]
  by_cases hx : g.Kind = 2 ∨ g.Kind = 3
  ·rw [if_pos hx, if_pos hx]; exact fl_fl hi' (by omega)
  ·rw [if_neg hx, if_neg hx, if_neg (show ¬ g.Kind = 9 by omega), if_neg (show ¬ g.Kind = 11 by omega)]
 ·obtain ⟨a, ha⟩ : ∃ a : Nat, g.A = a := ⟨g.A.toNat, by omega⟩
  obtain ⟨b, hb⟩ : ∃ b : Nat, g.B = b := ⟨g.B.toNat, by omega⟩
  have hne : n - 1 - a ≠ n - 1 - b := by omega
  unfold gsg
  rw [ha, hb, Int.toNat_natCast, Int.toNat_natCast, if_neg (show ¬ (g.Kind = 2 ∨ g.Kind = 3) by omega), if_neg (show ¬ (g.Kind = 2 ∨ g.Kind = 3) by omega)]
  have hfb := fl_far ⟨i, hi'⟩ ⟨n - 1 - b, by omega⟩ ⟨n - 1 - a, by omega⟩ (by simp only; omega)
  have hfa := fl_far ⟨i, hi'⟩ ⟨n - 1 - a, by omega⟩ ⟨n - 1 - b, by omega⟩ (by simp only; omega)
  simp only at hfa hfb
  have hila := fl_32 ⟨i, hi'⟩ ⟨n - 1 - a, by omega⟩
  simp only at hila
  have hlb := bi_lt i (n - 1 - b)
  have hla := bi_lt i (n - 1 - a)
  by_cases h9 : g.Kind = 9
  ·rw [if_pos h9, if_pos h9]
   by_cases h1 : bi i (n - 1 - a) = 1
   ·rw [if_pos h1, if_pos (by rw [hfb.1]; exact h1)]; exact fl_fl hi' (by omega)
   ·rw [if_neg h1, if_neg h1]
  ·rw [if_neg h9, if_neg h9]
   by_cases h11 : g.Kind = 11
   ·rw [if_pos h11, if_pos h11]
    by_cases h1 : bi i (n - 1 - a) ≠ bi i (n - 1 - b)
    ·have hff := fl_far ⟨fl i (n - 1 - a), hila⟩ ⟨n - 1 - b, by omega⟩ ⟨n - 1 - a, by omega⟩ (by simp only; omega)
     simp only at hff
     rw [if_pos h1, if_pos (by rw [hff.1, hff.2, hfa.1, hfa.2]; omega)]
     have hc := fl_comm ⟨fl i (n - 1 - a), hila⟩ ⟨n - 1 - b, by omega⟩ ⟨n - 1 - a, by omega⟩
     simp only at hc
     rw [hc, fl_fl hi' (by omega)]
     exact fl_fl hi' (by omega)
    ·rw [if_neg h1, if_neg h1]
   ·rw [if_neg h11, if_neg h11]
 ·unfold gsg
  rw [if_neg (show ¬ (g.Kind = 2 ∨ g.Kind = 3) by omega), if_neg (show ¬ (g.Kind = 2 ∨ g.Kind = 3) by omega), if_neg (show ¬ g.Kind = 9 by omega), if_neg (show ¬ g.Kind = 11 by omega), if_neg (show ¬ g.Kind = 9 by omega), if_neg (show ¬ g.Kind = 11 by omega)]
def hv (s : Int) : TRing := rIt 59 (TRing.mk s 0 0 0)
theorem gate_d (n : Nat) (hn : 1 ≤ n ∧ n ≤ 6) (kinds : List Int) (hk : 1 ≤ kinds.length ∧ kinds.length ≤ 1000) (hr : ∀ x ∈ kinds, 1 ≤ x ∧ x ≤ 12) : Dr (fun c => F_spec_l1Cur_gate c (n : Int) kinds) (fun g => gOk n g = true) 8 := fun code a s k hb h0 h1 h2 => by
 unfold F_spec_l1Cur_gate
 obtain ⟨v1, a1, s1, e1, p1, q1, r1⟩ := pick_d (kinds.length : Int) (by omega) code a s k hb h0 h1 (by omega)
 simp only at e1 ⊢
 rw [e1]; simp only [Option.bind_some]
 obtain ⟨x, hx, hx2⟩ := getI_at (l := kinds) (i := v1) p1.1 (by omega)
 have hxr := hr x (List.mem_of_getElem? hx2)
 rw [hx]; simp only [Option.bind_some]
 by_cases h12 : x = 12
 ·subst h12
  simp only [beq_self_eq_true, cond_true]
  exact ⟨_, _, _, rfl, by unfold gOk; simp, q1, by first | omega | (simp only; omega)⟩
 ·have e12 : (x == 12) = false := by simp [h12]
  rw [e12]
  simp only [cond_false]
  obtain ⟨v2, a2, s2, e2, p2, q2, r2⟩ := pick_d (n : Int) (by omega) code a1 s1 (k + 2) hb q1 r1 (by omega)
  simp only at e2
  rw [e2]; simp only [Option.bind_some]
  unfold F_spec_l1In
  simp only [Option.bind_some]
  by_cases h9 : 9 ≤ x ∧ x ≤ 11
  ·rw [decide_eq_true h9.1, decide_eq_true h9.2]
   simp only [Bool.and_self, cond_true]
   by_cases hn1 : n = 1
   ·subst hn1
    simp only [beq_self_eq_true, cond_true, Option.bind_some, orR, show (((1 : Nat) : Int) == 1) = true from rfl]
    exact ⟨_, _, _, rfl, by unfold gOk; simp, q2, by first | omega | (simp only; omega)⟩
   ·have en : ((n : Int) == 1) = false := by simp; omega
    rw [en]
    simp only [cond_false]
    rw [wrap_i64 (a := (n : Int) - 1) ⟨by omega, by omega⟩]
    obtain ⟨v3, a3, s3, e3, p3, q3, r3⟩ := pick_d ((n : Int) - 1) (by omega) code a2 s2 (k + 2 + 2) hb q2 r2 (by omega)
    simp only at e3
    rw [e3]; simp only [Option.bind_some]
    have hv2 := pick_lt p2 (by omega)
    have hv3 := pick_lt p3 (by omega)
    rw [chk_t (by omega), wrap_i64 (a := v2 + 1) ⟨by omega, by omega⟩, wrap_i64 (a := v2 + 1 + v3) ⟨by omega, by omega⟩]
    have w0 : 0 ≤ Int.tmod (v2 + 1 + v3) (n : Int) := Int.tmod_nonneg _ (by omega)
    have w1 : Int.tmod (v2 + 1 + v3) (n : Int) < (n : Int) := Int.tmod_lt_of_pos _ (by omega)
    have wne : Int.tmod (v2 + 1 + v3) (n : Int) ≠ v2 := by
     rw [Int.tmod_eq_emod_of_nonneg (by omega)]
     by_cases hlt : v2 + 1 + v3 < (n : Int)
     ·rw [Int.emod_eq_of_lt (by omega) hlt]; omega
     ·have : (v2 + 1 + v3) % (n : Int) = v2 + 1 + v3 - (n : Int) := by
       rw [← Int.sub_emod_right, Int.emod_eq_of_lt (by omega) (by omega)]
      rw [this]; omega
    simp only [Option.bind_some, orR]
    refine ⟨_, _, _, rfl, ?_, q3, by first | omega | (simp only; omega)⟩
    generalize Int.tmod (v2 + 1 + v3) (n : Int) = w at w0 w1 wne
    unfold gOk
    simp only
    rw [show (decide (1 ≤ x) && decide (x ≤ 8)) = false by simp; omega, decide_eq_true h9.1, decide_eq_true h9.2, decide_eq_true hv2.1, decide_eq_true (show v2 ≤ (n : Int) - 1 by omega), decide_eq_true w0, decide_eq_true (show w ≤ (n : Int) - 1 by omega)]
    simp
    omega
  ·have e9 : (decide (9 ≤ x) && decide (x ≤ 11)) = false := by
    simp only [Bool.and_eq_false_iff, decide_eq_false_iff_not]; omega
   rw [e9]
   simp only [cond_false, Option.bind_some, orR]
   have hv2 := pick_lt p2 (by omega)
   refine ⟨_, _, _, rfl, ?_, q2, by first | omega | (simp only; omega)⟩
   unfold gOk
   simp only
   rw [decide_eq_true hxr.1, decide_eq_true (show x ≤ 8 by omega), decide_eq_true hv2.1, decide_eq_true (show v2 ≤ (n : Int) - 1 by omega)]
   rfl
theorem built_d (n : Nat) (hn : 1 ≤ n ∧ n ≤ 6) (most : Nat) (hm : most ≤ 100) (kinds : List Int) (hk : 1 ≤ kinds.length ∧ kinds.length ≤ 1000) (hr : ∀ x ∈ kinds, 1 ≤ x ∧ x ≤ 12) : Dr (fun c => F_spec_l1Cur_built c (n : Int) (most : Int) kinds) (fun c => c.Qubits = (n : Int) ∧ c.Gates.length ≤ most ∧ c.Gates.all (gOk n) = true) 1000 := fun code a s k hb h0 h1 h2 => by
 unfold F_spec_l1Cur_built
 simp only
 rw [wrap_i64 (a := (most : Int) + 1) ⟨by omega, by omega⟩]
 obtain ⟨v1, a1, s1, e1, p1, q1, r1⟩ := pick_d ((most : Int) + 1) (by omega) code a s k hb h0 h1 (by omega)
 simp only at e1
 rw [e1]; simp only [Option.bind_some]
 have hv1 := pick_lt p1 (by omega)
 have hs := whX_inv (f := F_spec_l1Cur_built_l1 (Tl1Cur.mk code a s) (n : Int) kinds) (fun t => 0 ≤ t.2.2.2 ∧ 0 ≤ t.1 ∧ t.1 + 8 * t.2.2.2 ≤ ((k + 2 + 8 * most : Nat) : Int) ∧ (t.2.2.1.length : Int) + t.2.2.2 ≤ (most : Int) ∧ t.2.2.1.all (gOk n) = true) (fun t => 0 ≤ t.1 ∧ t.1 ≤ ((k + 2 + 8 * most : Nat) : Int) ∧ t.2.2.1.length ≤ most ∧ t.2.2.1.all (gOk n) = true) (fun _ : TCircuit × Tl1Cur => False) (fun t => t.2.2.2.toNat) (fun t ht => by
  obtain ⟨b1, z1, G, k_⟩ := t
  obtain ⟨t1, t2, t3, t4, t5⟩ := ht
  simp only at t1 t2 t3 t4 t5
  unfold F_spec_l1Cur_built_l1
  simp only
  by_cases hk0 : 0 < k_
  ·rw [decide_eq_true hk0]
   simp only [cond_true]
   obtain ⟨v2, a2, s2, e2, p2, q2, r2⟩ := gate_d n hn kinds hk hr code b1 z1 b1.toNat hb t2 (by omega) (by omega)
   simp only at e2
   rw [e2]; simp only [Option.bind_some]
   rw [chk_t (by omega), wrap_i64 (a := k_ - 1) ⟨by omega, by omega⟩]
   exact .inl ⟨_, rfl, ⟨by simp only; omega, q2, by simp only; omega, by simp only [List.length_append, List.length_singleton]; omega, by simp only [List.all_append, t5, List.all_cons, List.all_nil, p2, Bool.and_self]⟩, by simp only; omega⟩
  ·rw [decide_eq_false hk0]
   exact .inr (.inl ⟨_, rfl, t2, by simp only; omega, by simp only; omega, t5⟩)) fuel (a1, s1, [], v1) ⟨by simp only; omega, q1, by simp only; omega, by simp only [List.length_nil]; omega, rfl⟩ (fuelB (by simp only; omega))
 rcases hs with ⟨⟨b1, z1, G, k_⟩, w1, w2, w3, w4, w5⟩ | ⟨r, _, hr⟩
 ·rw [w1]
  simp only at w2 w3 w4 w5
  exact ⟨_, _, _, rfl, ⟨rfl, w4, w5⟩, w2, by first | omega | (simp only; omega)⟩
 ·exact hr.elim
theorem circuit_d : Dr F_spec_l1Cur_circuit (fun c => ∃ n : Nat, (1 ≤ n ∧ n ≤ 3) ∧ c.Qubits = (n : Int) ∧ c.Gates.length ≤ 8 ∧ c.Gates.all (gOk n) = true) 1010 := fun code a s k hb h0 h1 h2 => by
 unfold F_spec_l1Cur_circuit
 obtain ⟨v1, a1, s1, e1, p1, q1, r1⟩ := among_d [1, 2, 2, 3] (by decide) code a s k hb h0 h1 (by omega)
 simp only at e1 ⊢
 rw [e1]; simp only [Option.bind_some]
 obtain ⟨n, rfl, hn⟩ : ∃ n : Nat, v1 = n ∧ 1 ≤ n ∧ n ≤ 3 := by
  simp only [List.mem_cons, List.not_mem_nil, or_false] at p1
  exact ⟨v1.toNat, by omega, by omega, by omega⟩
 obtain ⟨v2, a2, s2, e2, p2, q2, r2⟩ := built_d n ⟨by omega, by omega⟩ 8 (by decide) [1, 2, 3, 4, 5, 6, 7, 8, 9, 9, 10, 11, 12, 7, 1] (by decide) (by decide) code a1 s1 (k + 2) hb q1 r1 (by omega)
 simp only at e2
 rw [show F_spec_l1Cur_built (Tl1Cur.mk code a1 s1) (n : Int) 8 [1, 2, 3, 4, 5, 6, 7, 8, 9, 9, 10, 11, 12, 7, 1] = _ from e2]
 exact ⟨_, _, _, rfl, ⟨n, hn, p2⟩, q2, by first | omega | (simp only; omega)⟩
theorem anyCircuit_d : Dr F_spec_l1Cur_anyCircuit (fun c => c.Gates.length ≤ 9) 1040 := fun code a s k hb h0 h1 h2 => by
 unfold F_spec_l1Cur_anyCircuit
 obtain ⟨v1, a1, s1, e1, ⟨n, hn, hq, hl, _⟩, q1, r1⟩ := circuit_d code a s k hb h0 h1 (by omega)
 simp only
 rw [e1]; simp only [Option.bind_some]
 obtain ⟨v2, a2, s2, e2, p2, q2, r2⟩ := pick_d 14 (by decide) code a1 s1 (k + 1010) hb q1 r1 (by omega)
 simp only at e2
 rw [e2]; simp only [Option.bind_some]
 cases v2 == 0 with
 | true =>
  simp only [cond_true]
  obtain ⟨v3, a3, s3, e3, p3, q3, r3⟩ := among_d [0, 1, 5, 6] (by decide) code a2 s2 (k + 1010 + 2) hb q2 r2 (by omega)
  simp only at e3
  rw [e3]
  exact ⟨_, _, _, rfl, by simp only; omega, q3, by first | omega | (simp only; omega)⟩
 | false =>
  cases v2 == 1 with
  | true =>
   simp only [cond_true, cond_false]
   obtain ⟨v3, a3, s3, e3, p3, q3, r3⟩ := pick_d 14 (by decide) code a2 s2 (k + 1010 + 2) hb q2 r2 (by omega)
   simp only at e3
   rw [e3]; simp only [Option.bind_some]
   obtain ⟨v4, a4, s4, e4, p4, q4, r4⟩ := pick_d 4 (by decide) code a3 s3 (k + 1010 + 2 + 2) hb q3 r3 (by omega)
   simp only at e4
   rw [e4]; simp only [Option.bind_some]
   obtain ⟨v5, a5, s5, e5, p5, q5, r5⟩ := pick_d 4 (by decide) code a4 s4 (k + 1010 + 2 + 2 + 2) hb q4 r4 (by omega)
   simp only at e5
   rw [e5]; simp only [Option.bind_some]
   rw [chk_t (by omega)]
   exact ⟨_, _, _, rfl, by simp only [List.length_append, List.length_singleton]; omega, q5, by first | omega | (simp only; omega)⟩
  | false =>
   simp only [cond_false]
   exact ⟨_, _, _, rfl, by simp only; omega, q2, by first | omega | (simp only; omega)⟩

def colL (d s : Nat) : List TDyadic := (List.range d).map fun i => (unitL d).getD (i * d + s) dZero
theorem forN_one {σ : Type} {f : Nat → σ → Option σ} {s : σ} : forN f 1 0 s = f 0 s := by
 simp only [forN]
 cases f 0 s <;> rfl
theorem col_grid (d s : Nat) : gridO (fun i _ => some ((unitL d).getD (i * d + s) dZero)) d 1 = some (colL d s) := by
 obtain ⟨z, h1, h2⟩ := forN_inv (f := fun i l' => forN (fun _ l' => (some ((unitL d).getD (i * d + s) dZero)).bind fun z => some (l' ++ [z])) 1 0 l') (fun i z => z = (List.range i).map fun i => (unitL d).getD (i * d + s) dZero) d 0 [] (by simp) (fun i z _ _ hz => by
  refine ⟨z ++ [(unitL d).getD (i * d + s) dZero], by rw [forN_one]; rfl, ?_⟩
  rw [hz, List.range_succ, List.map_append]; rfl)
 unfold gridO
 rw [h1, h2, Nat.zero_add]; rfl
theorem col_len (d s : Nat) : (colL d s).length = d * 1 := by simp [colL]
theorem col_ok (d s : Nat) : okD (colL d s) := fun z hz => by
 simp only [colL, List.mem_map] at hz
 obtain ⟨i, _, rfl⟩ := hz
 exact getD_ok (unit_ok d) _
theorem ixI {d i : Nat} {s : Int} (hi : i < d) (hs : 0 ≤ s ∧ s < d) (hd : d ≤ 32) : IntKind.i64.wrap (IntKind.i64.wrap ((i : Int) * (d : Int)) + s) = ((i * d + s.toNat : Nat) : Int) := by
 obtain ⟨k, rfl⟩ : ∃ k : Nat, s = k := ⟨s.toNat, by omega⟩
 exact ix hi (by omega) hd hd
theorem spec_col {d : Nat} {s : Int} (hs : 0 ≤ s ∧ s < d) (hd : d ≤ 32) : F_spec_l3Column (TMatrix.mk d d (unitL d)) s = some (TMatrix.mk d 1 (colL d s.toNat)) := by
 unfold F_spec_l3Column
 simp only [Int.toNat_natCast]
 rw [chk_t (by omega)]
 obtain ⟨z, h1, h2⟩ := forN_inv (f := F_spec_l3Column_l1 (TMatrix.mk d d (unitL d)) s) (fun i z => z = (List.range i).map fun i => (unitL d).getD (i * d + s.toNat) dZero) d 0 [] (by simp) (fun i z _ hi hz => by
  refine ⟨z ++ [(unitL d).getD (i * d + s.toNat) dZero], ?_, by rw [hz, List.range_succ, List.map_append]; rfl⟩
  unfold F_spec_l3Column_l1
  simp only
  rw [ixI (by omega) hs hd, gI (n := i * d + s.toNat) rfl (by rw [unit_len]; exact ix_lt (by omega) (by omega))]
  simp only [Option.bind_some]
  rw [chk_t (by rw [hz]; simp; omega)])
 rw [h1, h2, Nat.zero_add]; rfl
theorem dim_one : dimB ((1 : Nat) : Int) = true := by decide
theorem impl_col {d : Nat} {s : Int} (hs : 0 ≤ s ∧ s < d) (hdim : dimB (d : Int) = true) : F_impl_ColumnOf (TMatrix.mk d d (unitL d)) s = some (TMatrix.mk d 1 (colL d s.toNat), true) := by
 have hd := dim_le hdim
 have hm : mOk (TMatrix.mk d d (unitL d)) = true := m_make hdim hdim (unit_len d) (unit_ok d)
 have hl : (unitL d).length ≤ 1024 := by rw [unit_len]; exact Nat.mul_le_mul (show d ≤ 32 by omega) (show d ≤ 32 by omega)
 unfold F_impl_ColumnOf F_impl_within
 rw [impl_mgood _ (by simp only; omega), hm]
 simp only [Option.bind_some, gb, Bool.not_true, Bool.not_false, cond_true]
 rw [wr (a := (d : Int) - 1) (by omega), decide_eq_true hs.1, decide_eq_true (show s ≤ (d : Int) - 1 by omega)]
 simp only [Bool.and_self, Bool.not_true, Bool.or_self, cond_false]
 have := (im_matrixOf (R := d) (C := 1) (cell := fun x_0 x_1 => F_impl_ColumnOf_1 x_0 x_1 (TMatrix.mk d d (unitL d)) s) (cellO := fun i _ => some ((unitL d).getD (i * d + s.toNat) dZero)) hdim dim_one (by omega) (by omega) (fun i j hi hj => by
  refine ⟨?_, fun z hz => by cases hz; exact getD_ok (unit_ok d) _⟩
  unfold F_impl_ColumnOf_1
  obtain ⟨k, rfl⟩ : ∃ k : Nat, s = k := ⟨s.toNat, by omega⟩
  rw [im_at hi (show k < d by omega) (by omega) (by omega) (unit_len d)]
  rfl)).1
 rw [col_grid] at this
 rw [show F_impl_matrixOf (d : Int) 1 (fun x_0 x_1 => F_impl_ColumnOf_1 x_0 x_1 (TMatrix.mk d d (unitL d)) s) = _ from this]
 rfl
def stO (c : TCircuit) (s : Int) : Option (List TDyadic) := runO c.Qubits.toNat 1 c.Gates (colL (2 ^ c.Qubits.toNat) s.toNat)
def stOkB (c : TCircuit) (s : Int) : Bool := cOk c && (decide (0 ≤ s) && decide (s < ((2 ^ c.Qubits.toNat : Nat) : Int)))
def stR (c : TCircuit) (s : Int) : TMatrix × Bool := if stOkB c s then mR (2 ^ c.Qubits.toNat) 1 (stO c s) else (TMatrix.mk 0 0 [], false)
theorem st_both (c : TCircuit) (s : Int) (hl : c.Gates.length ≤ 1048576) : F_spec_StateAfter c s = some (stR c s) ∧ F_impl_StateAfter c s = some (stR c s) ∧ ∀ z, stOkB c s = true → stO c s = some z → okD z ∧ z.length = 2 ^ c.Qubits.toNat * 1 := by
 unfold F_spec_StateAfter F_impl_StateAfter F_spec_l1In F_impl_within stR stO stOkB
 rw [spec_good, impl_good c hl]
 cases hc : cOk c with
 | false =>
  simp only [Option.bind_some, Bool.not_false, Bool.not_true]
  rw [chk_t (fun h => by cases h), chk_t (fun h => by cases h)]
  exact ⟨rfl, rfl, fun z h => by cases h⟩
 | true =>
  obtain ⟨n, hq, hn, hx, hg⟩ := c_parts hc
  have hp := pow_le hn
  have hd := pow_dim hn
  rw [hq]
  simp only [Option.bind_some, Bool.not_true, Bool.not_false, gb, cond_true, Int.toNat_natCast, Bool.true_and, Bool.false_or]
  rw [chk_t (fun _ => by rw [wru (by omega)]; omega), chk_t (fun _ => by omega), shl_u hn, shl_i hn, wr (a := ((2 ^ n : Nat) : Int) - 1) (by omega)]
  by_cases h0 : 0 ≤ s ∧ s < ((2 ^ n : Nat) : Int)
  ·rw [decide_eq_true h0.1, decide_eq_true h0.2, decide_eq_true (show s ≤ ((2 ^ n : Nat) : Int) - 1 by omega)]
   simp only [Bool.and_self, Bool.not_true, cond_false, if_true]
   rw [chk_t (by rw [wru (by omega)]; omega), chk_t (by omega), unit_spec _ (dim_mem hd), unit_impl _ (dim_mem hd)]
   simp only [Option.bind_some]
   rw [spec_col h0 hp.2, impl_col h0 hd]
   obtain ⟨l, b, s1, s2⟩ := sp_run (E := 1) hn hq hg hx (by decide) (col_ok (2 ^ n) s.toNat) (col_len _ _) false
   obtain ⟨i1, i2⟩ := im_run (E := 1) hn hq hg hx dim_one (col_ok (2 ^ n) s.toNat) (col_len _ _)
   simp only [Option.bind_some]
   rw [show F_spec_l2C_run (Tl2C.mk false) c (TMatrix.mk (2 ^ n : Nat) 1 (colL (2 ^ n) s.toNat)) = _ from s1, show F_impl_applied c (TMatrix.mk (2 ^ n : Nat) 1 (colL (2 ^ n) s.toNat)) true = _ from i1]
   refine ⟨?_, rfl, fun z _ hz => i2 z hz⟩
   simp only [Option.bind_some]
   rcases s2.good with ⟨p, rfl⟩ | ⟨p, rfl⟩
   ·rw [p]; rfl
   ·rw [p]; rfl
  ·have e : (decide (0 ≤ s) && decide (s ≤ ((2 ^ n : Nat) : Int) - 1)) = false := Bool.eq_false_iff.2 (fun h => by simp only [Bool.and_eq_true, decide_eq_true_eq] at h; omega)
   have e2 : (decide (0 ≤ s) && decide (s < ((2 ^ n : Nat) : Int))) = false := Bool.eq_false_iff.2 (fun h => by simp only [Bool.and_eq_true, decide_eq_true_eq] at h; omega)
   rw [e, e2]
   exact ⟨rfl, rfl, fun z h => by cases h⟩
def b01 (b : Bool) : Nat := if b then 1 else 0
def rv (n x : Nat) : Nat := (List.range n).foldl (fun y k => 2 * y + b01 (x.testBit k)) 0
theorem rv_small : ∀ (n : Fin 6) (x : Fin 32), x.val < 2 ^ n.val → rv n.val x.val < 2 ^ n.val ∧ rv n.val (rv n.val x.val) = x.val := by decide +kernel
theorem rv_bit_ : ∀ (n : Fin 6) (x : Fin 32) (a : Fin 5), x.val < 2 ^ n.val → a.val < n.val → bi (rv n.val x.val) (n.val - 1 - a.val) = b01 (x.val.testBit a.val) ∧ rv n.val (x.val ^^^ 2 ^ a.val) = fl (rv n.val x.val) (n.val - 1 - a.val) ∧ x.val ^^^ 2 ^ a.val < 2 ^ n.val := by decide +kernel
theorem rv_lt {n x : Nat} (hn : n ≤ 5) (hx : x < 2 ^ n) : rv n x < 2 ^ n ∧ rv n (rv n x) = x := by
 have h32 := pow32 hn
 exact rv_small ⟨n, by omega⟩ ⟨x, by omega⟩ hx
theorem rv_bit {n x a : Nat} (hn : n ≤ 5) (hx : x < 2 ^ n) (ha : a < n) : bi (rv n x) (n - 1 - a) = b01 (x.testBit a) ∧ rv n (x ^^^ 2 ^ a) = fl (rv n x) (n - 1 - a) ∧ x ^^^ 2 ^ a < 2 ^ n := by
 have h32 := pow32 hn
 exact rv_bit_ ⟨n, by omega⟩ ⟨x, by omega⟩ ⟨a, by omega⟩ hx ha
/-- Where a gate takes a basis state, and the phase it gives. -/
def fs (g : TGate) (x : Nat) : Nat :=
 if g.Kind = 9 then (if x.testBit g.A.toNat then x ^^^ 2 ^ g.B.toNat else x) else
 if g.Kind = 11 then (if x.testBit g.A.toNat ≠ x.testBit g.B.toNat then x ^^^ 2 ^ g.A.toNat ^^^ 2 ^ g.B.toNat else x) else x
def fk (g : TGate) (x : Nat) : Nat :=
 if g.Kind = 10 then (if x.testBit g.A.toNat ∧ x.testBit g.B.toNat then 4 else 0) else
 if g.Kind = 12 then 1 else if g.Kind ≤ 8 then kap g.Kind.toNat (b01 (x.testBit g.A.toNat)) else 0
theorem tb_xor (x a b : Nat) : (x ^^^ 2 ^ a).testBit b = if a = b then !x.testBit b else x.testBit b := by
 rw [Nat.testBit_xor, Nat.testBit_two_pow]
 by_cases h : a = b
 ·rw [if_pos h, decide_eq_true h]; simp
 ·rw [if_neg h, decide_eq_false h]; simp
theorem b01_inj {a b : Bool} : b01 a = b01 b ↔ a = b := by cases a <;> cases b <;> decide
theorem b01_one {a : Bool} : b01 a = 1 ↔ a = true := by cases a <;> decide
/-- Gates that keep the basis. -/
def phG (n : Nat) (g : TGate) : Bool := gOk n g && decide (4 ≤ g.Kind)
theorem fl_back {n a x : Nat} (hn : n ≤ 5) (hx : x < 2 ^ n) (ha : a < n) : fl (fl (rv n x) (n - 1 - a)) (n - 1 - a) = rv n x := by
 have h32 := pow32 hn
 exact fl_fl (by have := (rv_lt hn hx).1; omega) (by omega)
theorem fs_one {n : Nat} (hn : 1 ≤ n ∧ n ≤ 5) {g : TGate} (hg : phG n g = true) {x : Nat} (hx : x < 2 ^ n) : fs g x < 2 ^ n ∧ gsg n g (rv n (fs g x)) = rv n x ∧ gka n g (rv n (fs g x)) = fk g x ∧ rv n (fs g x) = gsg n g (rv n x) := by
 unfold phG at hg
 simp only [Bool.and_eq_true, decide_eq_true_eq] at hg
 obtain ⟨hg, k4⟩ := hg
 have n23 : ¬ (g.Kind = 2 ∨ g.Kind = 3) := by omega
 rcases gOk_cases hg with ⟨k1, k8, a0, a1⟩ | ⟨k9, k11, a0, a1, b0, b1, hab⟩ | k12
 ·have e9 : g.Kind ≠ 9 := by omega
  have e11 : g.Kind ≠ 11 := by omega
  have e10 : g.Kind ≠ 10 := by omega
  have e12 : g.Kind ≠ 12 := by omega
  have ha : g.A.toNat < n := by omega
  unfold fs gsg gka fk
  simp only [if_neg e9, if_neg e11, if_neg e10, if_neg e12, if_neg n23, if_pos k8]
  refine ⟨hx, (by first | rfl | trivial), ?_, (by first | rfl | trivial)⟩
  rw [(rv_bit hn.2 hx ha).1]
 ·have ha : g.A.toNat < n := by omega
  have hb : g.B.toNat < n := by omega
  have hne : g.A.toNat ≠ g.B.toNat := by omega
  have e12 : g.Kind ≠ 12 := by omega
  have e8 : ¬ g.Kind ≤ 8 := by omega
  obtain ⟨A1, A2, A3⟩ := rv_bit hn.2 hx ha
  obtain ⟨B1, B2, B3⟩ := rv_bit hn.2 hx hb
  have hc : g.Kind = 9 ∨ g.Kind = 10 ∨ g.Kind = 11 := by omega
  rcases hc with e | e | e
  ·unfold fs gsg gka fk
   simp only [e, if_pos, if_neg (show ¬ ((9 : Int) = 2 ∨ (9 : Int) = 3) by decide), if_neg (show ¬ (9 : Int) = 10 by decide), if_neg (show ¬ (9 : Int) = 12 by decide), if_neg (show ¬ (9 : Int) ≤ 8 by decide), if_neg (show ¬ (9 : Int) = 11 by decide)]
   by_cases t : x.testBit g.A.toNat = true
   ·rw [if_pos t]
    have A1' := (rv_bit hn.2 B3 ha).1
    rw [tb_xor, if_neg (fun h => hne h.symm), t] at A1'
    rw [t] at A1
    rw [A1', if_pos (show b01 true = 1 from rfl), B2, fl_back hn.2 hx hb, A1, if_pos (show b01 true = 1 from rfl)]
    exact ⟨B3, (by first | rfl | trivial), (by first | rfl | trivial), (by first | rfl | trivial)⟩
   ·rw [if_neg t]
    have t : x.testBit g.A.toNat = false := by simpa using t
    rw [t] at A1
    rw [A1, if_neg (show ¬ b01 false = 1 by decide)]
    exact ⟨hx, (by first | rfl | trivial), (by first | rfl | trivial), (by first | rfl | trivial)⟩
  ·unfold fs gsg gka fk
   simp only [e, if_pos, if_neg (show ¬ ((10 : Int) = 2 ∨ (10 : Int) = 3) by decide), if_neg (show ¬ (10 : Int) = 9 by decide), if_neg (show ¬ (10 : Int) = 11 by decide)]
   refine ⟨hx, (by first | rfl | trivial), ?_, (by first | rfl | trivial)⟩
   rw [A1, B1]
   simp only [b01_one]
  ·unfold fs gsg gka fk
   simp only [e, if_pos, if_neg (show ¬ ((11 : Int) = 2 ∨ (11 : Int) = 3) by decide), if_neg (show ¬ (11 : Int) = 10 by decide), if_neg (show ¬ (11 : Int) = 12 by decide), if_neg (show ¬ (11 : Int) ≤ 8 by decide), if_neg (show ¬ (11 : Int) = 9 by decide)]
   by_cases t : x.testBit g.A.toNat = x.testBit g.B.toNat
   ·rw [if_neg (show ¬ (x.testBit g.A.toNat ≠ x.testBit g.B.toNat) from fun h => h t), A1, B1, if_neg (show ¬ (b01 (x.testBit g.A.toNat) ≠ b01 (x.testBit g.B.toNat)) from fun h => h (by rw [t]))]
    exact ⟨hx, (by first | rfl | trivial), (by first | rfl | trivial), (by first | rfl | trivial)⟩
   ·rw [if_pos t]
    obtain ⟨C1, C2, C3⟩ := rv_bit hn.2 A3 hb
    have D1 := (rv_bit hn.2 C3 ha).1
    have D2 := (rv_bit hn.2 C3 hb).1
    rw [tb_xor, if_neg (fun h => hne h.symm), tb_xor, if_pos rfl] at D1
    rw [tb_xor, if_pos rfl, tb_xor, if_neg hne] at D2
    rw [D1, D2, if_pos (show b01 (!x.testBit g.A.toNat) ≠ b01 (!x.testBit g.B.toNat) from fun h => t (by have := b01_inj.1 h; simpa using this)), A1, B1, if_pos (show b01 (x.testBit g.A.toNat) ≠ b01 (x.testBit g.B.toNat) from fun h => t (b01_inj.1 h)), C2, A2]
    have h32 := pow32 hn.2
    have r1 := (rv_lt hn.2 hx).1
    refine ⟨C3, ?_, (by first | rfl | trivial), (by first | rfl | trivial)⟩
    have f1 := (rv_lt hn.2 A3).1
    rw [A2] at f1
    have hcm := fl_comm ⟨fl (rv n x) (n - 1 - g.A.toNat), by omega⟩ ⟨n - 1 - g.B.toNat, by omega⟩ ⟨n - 1 - g.A.toNat, by omega⟩
    simp only at hcm
    rw [hcm, fl_fl (i := rv n x) (by omega) (by omega), fl_fl (by omega) (by omega)]
 ·have n9 : g.Kind ≠ 9 := by omega
  unfold fs gsg gka fk
  simp only [k12, if_pos, if_neg (show ¬ ((12 : Int) = 2 ∨ (12 : Int) = 3) by decide), if_neg (show ¬ (12 : Int) = 10 by decide), if_neg (show ¬ (12 : Int) = 11 by decide), if_neg (show ¬ (12 : Int) = 9 by decide)]
  exact ⟨hx, (by first | rfl | trivial), (by first | rfl | trivial), (by first | rfl | trivial)⟩
def fsL (gs : List TGate) (x : Nat) : Nat := gs.foldl (fun x g => fs g x) x
def fkL : List TGate → Nat → Nat
 | [], _ => 0
 | g :: t, x => fkL t (fs g x) + fk g x
theorem fsL_app (a b : List TGate) (x : Nat) : fsL (a ++ b) x = fsL b (fsL a x) := List.foldl_append
theorem fkL_app : ∀ (a b : List TGate) (x : Nat), fkL (a ++ b) x = fkL a x + fkL b (fsL a x)
 | [], b, x => by show fkL b x = 0 + fkL b x; omega
 | g :: a, b, x => by
  show fkL (a ++ b) (fs g x) + fk g x = fkL a (fs g x) + fk g x + fkL b (fsL a (fs g x))
  rw [fkL_app a b (fs g x)]; omega
theorem fs_run {n : Nat} (hn : 1 ≤ n ∧ n ≤ 5) : ∀ (gs : List TGate), gs.all (phG n) = true → ∀ x, x < 2 ^ n → fsL gs x < 2 ^ n ∧ csg n gs (rv n (fsL gs x)) = rv n x ∧ cka n gs (rv n (fsL gs x)) = fkL gs x
 | [], _, x, hx => ⟨hx, rfl, rfl⟩
 | g :: t, hg, x, hx => by
  simp only [List.all_cons, Bool.and_eq_true] at hg
  obtain ⟨h1, h2, h3, _⟩ := fs_one hn hg.1 hx
  obtain ⟨k1, k2, k3⟩ := fs_run hn t hg.2 (fs g x) h1
  refine ⟨k1, ?_, ?_⟩
  ·show gsg n g (csg n t (rv n (fsL t (fs g x)))) = rv n x
   rw [k2, h2]
  ·show cka n t (rv n (fsL t (fs g x))) + gka n g (csg n t (rv n (fsL t (fs g x)))) = fkL t (fs g x) + fk g x
   rw [k2, k3, h3]
theorem csg_lt {n : Nat} (hn : 1 ≤ n ∧ n ≤ 5) : ∀ (gs : List TGate), gs.all (phG n) = true → ∀ i, i < 2 ^ n → csg n gs i < 2 ^ n
 | [], _, _, hi => hi
 | g :: t, hg, i, hi => by
  simp only [List.all_cons, Bool.and_eq_true] at hg
  have hgo : gOk n g = true := by have := hg.1; unfold phG at this; simp only [Bool.and_eq_true] at this; exact this.1
  exact gsg_lt hn hgo (csg_lt hn t hg.2 i hi)
/-- Every row is met from some basis state. -/
theorem fs_back {n : Nat} (hn : 1 ≤ n ∧ n ≤ 5) : ∀ (gs : List TGate), gs.all (phG n) = true → ∀ i, i < 2 ^ n → fsL gs (rv n (csg n gs i)) = rv n i
 | [], _, _, _ => rfl
 | g :: t, hg, i, hi => by
  simp only [List.all_cons, Bool.and_eq_true] at hg
  have hc := csg_lt hn t hg.2 i hi
  have hgo : gOk n g = true := by have := hg.1; unfold phG at this; simp only [Bool.and_eq_true] at this; exact this.1
  have hs := gsg_lt hn hgo hc
  have hx := (rv_lt hn.2 hs).1
  have h4 := (fs_one hn hg.1 hx).2.2.2
  have h1 := (fs_one hn hg.1 hx).1
  rw [(rv_lt hn.2 hs).2, gsg_gsg hn hgo hc] at h4
  show fsL t (fs g (rv n (gsg n g (csg n t i)))) = rv n i
  have h5 := congrArg (rv n) h4
  rw [(rv_lt hn.2 h1).2] at h5
  rw [h5]
  exact fs_back hn t hg.2 i hi

theorem mid_idn_ : ∀ (n : Fin 6) (x : Fin 32), x.val < 2 ^ n.val → mid (idn n.val) x.val n.val = x.val := by decide +kernel
theorem mid_idn {n x : Nat} (hn : n ≤ 5) (hx : x < 2 ^ n) : mid (idn n) x n = x := mid_idn_ ⟨n, by omega⟩ ⟨x, by have := pow32 hn; show x < 32; omega⟩ hx
theorem mid_eq {l : List Nat} {x n y : Nat} (hy : y < 2 ^ n) (h : ∀ j, j < n → y.testBit j = decide (pn (l.getD j 0 &&& x) = 1)) : mid l x n = y := by
 refine Nat.eq_of_testBit_eq fun j => ?_
 by_cases hj : j < n
 ·rw [mid_bit l x n j hj, h j hj]
 ·rw [tb_out (mid_lt l x n) (by omega), tb_out hy (by omega)]
theorem two_lt {a n : Nat} (h : a < n) : 2 ^ a < 2 ^ n := Nat.pow_lt_pow_right (by decide) h
theorem mid_cx {l : List Nat} {n a b x : Nat} (hl : NOk n l) (hn : n ≤ 5) (ha : a < n) (hb : b < n) : mid (cxL l a b) x n = if (mid l x n).testBit a then mid l x n ^^^ 2 ^ b else mid l x n := by
 have h32 := pow32 hn
 have hm := mid_lt l x n
 have hla := getD_lt hl.2 a
 have hlb := getD_lt hl.2 b
 refine mid_eq ?_ fun j hj => ?_
 ·split
  ·exact Nat.xor_lt_two_pow hm (two_lt hb)
  ·exact hm
 ·rw [cxL_get (by rw [hl.1]; exact hb), mid_bit l x n a ha]
  have p1 := pn_lt (l.getD a 0 &&& x)
  have p2 := pn_lt (l.getD b 0 &&& x)
  by_cases hab : pn (l.getD a 0 &&& x) = 1
  ·rw [decide_eq_true hab, if_pos rfl, tb_xor, mid_bit l x n j hj]
   by_cases hjb : j = b
   ·subst hjb
    rw [if_pos rfl, if_pos rfl, pn_and_xor x (by omega) (by omega), hab]
    have : pn (l.getD j 0 &&& x) = 0 ∨ pn (l.getD j 0 &&& x) = 1 := by omega
    rcases this with e | e <;> rw [e] <;> rfl
   ·rw [if_neg (Ne.symm hjb), if_neg hjb]
  ·rw [decide_eq_false hab, if_neg (by simp), mid_bit l x n j hj]
   by_cases hjb : j = b
   ·subst hjb
    rw [if_pos rfl, pn_and_xor x (by omega) (by omega), show pn (l.getD a 0 &&& x) = 0 by omega, Nat.add_zero, Nat.mod_eq_of_lt p2]
   ·rw [if_neg hjb]
def swL (l : List Nat) (a b : Nat) : List Nat := (l.set a (l.getD b 0)).set b (l.getD a 0)
theorem swL_get {l : List Nat} {a b : Nat} (ha : a < l.length) (hb : b < l.length) (j : Nat) : (swL l a b).getD j 0 = if j = b then l.getD a 0 else if j = a then l.getD b 0 else l.getD j 0 := by
 unfold swL
 rw [List.getD_eq_getElem?_getD, List.getElem?_set]
 by_cases h : b = j
 ·subst h; rw [if_pos rfl, if_pos (by simpa using hb), if_pos rfl]; rfl
 ·rw [if_neg h, if_neg (Ne.symm h), List.getElem?_set]
  by_cases h2 : a = j
  ·subst h2; rw [if_pos rfl, if_pos ha, if_pos rfl]; rfl
  ·rw [if_neg h2, if_neg (Ne.symm h2), ← List.getD_eq_getElem?_getD]
theorem sw_cx {l : List Nat} {a b : Nat} (ha : a < l.length) (hb : b < l.length) (hab : a ≠ b) : swL l a b = cxL (cxL (cxL l a b) b a) a b := by
 have l1 := cxL_len l a b
 have l2 := cxL_len (cxL l a b) b a
 have e1 : l.getD a 0 ^^^ (l.getD b 0 ^^^ l.getD a 0) = l.getD b 0 := by rw [Nat.xor_comm (l.getD b 0), ← Nat.xor_assoc, Nat.xor_self, Nat.zero_xor]
 have f1 : ∀ x, (cxL l a b).getD x 0 = if x = b then l.getD b 0 ^^^ l.getD a 0 else l.getD x 0 := fun x => cxL_get hb x
 have s_a : (cxL (cxL l a b) b a).getD a 0 = l.getD b 0 := by rw [cxL_get (by omega), if_pos rfl, f1, f1, if_neg hab, if_pos rfl, e1]
 have s_b : (cxL (cxL l a b) b a).getD b 0 = l.getD b 0 ^^^ l.getD a 0 := by rw [cxL_get (by omega), if_neg (Ne.symm hab), f1, if_pos rfl]
 refine nat_ext (by rw [cxL_len, l2, l1]; simp [swL]) fun j hj => ?_
 rw [swL_get ha hb, cxL_get (x := cxL (cxL l a b) b a) (by omega), s_a, s_b]
 by_cases h1 : j = b
 ·rw [if_pos h1, if_pos h1, Nat.xor_comm (l.getD b 0), xx]
 ·rw [if_neg h1, if_neg h1]
  by_cases h2 : j = a
  ·rw [if_pos h2, h2, s_a]
  ·rw [if_neg h2, cxL_get (by omega), if_neg h2, f1, if_neg h1]
/-- The rows behind a gate. -/
def rowG (g : TGate) (l : List Nat) : List Nat := if g.Kind = 9 then cxL l g.A.toNat g.B.toNat else if g.Kind = 11 then swL l g.A.toNat g.B.toNat else l
theorem row_g {n : Nat} (hn : n ≤ 5) {g : TGate} (hg : gOk n g = true) {l : List Nat} (hl : NOk n l) (hF : Full n l) : NOk n (rowG g l) ∧ Full n (rowG g l) ∧ ∀ x, mid (rowG g l) x n = fs g (mid l x n) := by
 have key : ∀ {a b : Nat}, a < n → b < n → a ≠ b → ∀ {l}, NOk n l → Full n l → NOk n (cxL l a b) ∧ Full n (cxL l a b) := fun {a b} ha hb hab {l} h1 h2 => ⟨cxL_ok h1 a b, full_cx h1.1 ha hb hab h2⟩
 unfold rowG fs
 by_cases k9 : g.Kind = 9
 ·simp only [k9, if_pos]
  have := gOk_cases hg
  have ha : g.A.toNat < n := by omega
  have hb : g.B.toNat < n := by omega
  obtain ⟨a1, a2⟩ := key ha hb (by omega) hl hF
  exact ⟨a1, a2, fun x => by rw [mid_cx hl hn ha hb]⟩
 ·rw [if_neg k9]
  by_cases k11 : g.Kind = 11
  ·have := gOk_cases hg
   have ha : g.A.toNat < n := by omega
   have hb : g.B.toNat < n := by omega
   have hab : g.A.toNat ≠ g.B.toNat := by omega
   rw [if_pos k11, sw_cx (by rw [hl.1]; exact ha) (by rw [hl.1]; exact hb) hab]
   obtain ⟨a1, a2⟩ := key ha hb hab hl hF
   obtain ⟨b1, b2⟩ := key hb ha (Ne.symm hab) a1 a2
   obtain ⟨c1, c2⟩ := key ha hb hab b1 b2
   refine ⟨c1, c2, fun x => ?_⟩
   rw [if_neg k9, if_pos k11, mid_cx b1 hn ha hb, mid_cx a1 hn hb ha, mid_cx hl hn ha hb]
   generalize mid l x n = y
   cases ta : y.testBit g.A.toNat <;> cases tb_ : y.testBit g.B.toNat
   all_goals simp only [ta, tb_, tb_xor, if_true, if_false, Bool.not_true, Bool.not_false, ne_eq, not_true_eq_false, not_false_eq_true, Bool.false_eq_true, Bool.true_eq_false, if_neg hab, if_neg (Ne.symm hab)]
   all_goals first | rfl | (rw [xr]) | (rw [Nat.xor_comm (y ^^^ 2 ^ g.B.toNat), ← Nat.xor_assoc]) | skip
   all_goals first | rfl | (rw [xr, xx]) | (rw [xx]) | skip
  ·rw [if_neg k11]
   exact ⟨hl, hF, fun x => by rw [if_neg k9, if_neg k11]⟩
/-- The state behind some gates. -/
def PS (n : Nat) (gs : List TGate) (t : Int × List Int × List Int) : Prop :=
 ∃ l, t.2.1 = cI l ∧ NOk n l ∧ Full n l ∧ (0 ≤ t.1 ∧ t.1 ≤ 7) ∧ TabOk (2 ^ n) t.2.2 ∧ ∀ x, x < 2 ^ n → mid l x n = fsL gs x ∧ (t.1 + tabS (phS x) t.2.2 - ((fkL gs x : Nat) : Int)) % 8 = 0
theorem fkL_snoc (gs : List TGate) (g : TGate) (x : Nat) : fkL (gs ++ [g]) x = fkL gs x + fk g (fsL gs x) := by
 rw [fkL_app]
 show fkL gs x + (0 + fk g (fsL gs x)) = _
 omega
theorem fsL_snoc (gs : List TGate) (g : TGate) (x : Nat) : fsL (gs ++ [g]) x = fs g (fsL gs x) := by rw [fsL_app]; rfl
theorem b01_dec {p : Prop} [Decidable p] : b01 (decide p) = if p then 1 else 0 := by
 unfold b01
 by_cases h : p
 ·rw [decide_eq_true h, if_pos h]; rfl
 ·rw [decide_eq_false h, if_neg h]; rfl
theorem b01_mid {l : List Nat} {x n a : Nat} (ha : a < n) : b01 ((mid l x n).testBit a) = pn (l.getD a 0 &&& x) := by
 have := pn_lt (l.getD a 0 &&& x)
 rw [mid_bit l x n a ha, b01_dec]
 split <;> omega
theorem coef_kap : ∀ (k : Fin 9), 1 ≤ k.val → ∃ r : Nat, F_impl_rotationCoef (k.val : Int) = some (r : Int) ∧ r ≤ 7 ∧ (r = 0 ↔ k.val < 4) ∧ (4 ≤ k.val → kap k.val 0 = 0 ∧ kap k.val 1 = r) := by
 intro k hk
 have : k.val = 1 ∨ k.val = 2 ∨ k.val = 3 ∨ k.val = 4 ∨ k.val = 5 ∨ k.val = 6 ∨ k.val = 7 ∨ k.val = 8 := by omega
 rcases this with e | e | e | e | e | e | e | e <;> rw [e]
 ·exact ⟨0, by decide, by decide, by decide, by decide⟩
 ·exact ⟨0, by decide, by decide, by decide, by decide⟩
 ·exact ⟨0, by decide, by decide, by decide, by decide⟩
 ·exact ⟨4, by decide, by decide, by decide, by decide⟩
 ·exact ⟨2, by decide, by decide, by decide, by decide⟩
 ·exact ⟨6, by decide, by decide, by decide, by decide⟩
 ·exact ⟨1, by decide, by decide, by decide, by decide⟩
 ·exact ⟨7, by decide, by decide, by decide, by decide⟩
theorem pp_round {c : TCircuit} {n : Nat} (hn : 1 ≤ n ∧ n ≤ 5) {gs : List TGate} {j : Nat} {x : TGate} (hx : c.Gates[j]? = some x) (hgx : gOk n x = true) {t : Int × List Int × List Int} (h : PS n gs t) :
  (∃ t', F_impl_PhasePolyOf_l1 c j t = some (.nx t') ∧ phG n x = true ∧ PS n (gs ++ [x]) t') ∨ F_impl_PhasePolyOf_l1 c j t = some (.rt (TPhasePoly.mk 0 0 [] (TLinear.mk []), false)) := by
 obtain ⟨ph, O, S⟩ := t
 obtain ⟨l, h1, hl, hF, hp, hS, hv⟩ := h
 simp only at h1 hp hS hv
 subst h1
 have h32 := pow32 hn.2
 have hk := gOk_cases hgx
 obtain ⟨r1, r2, r3⟩ := row_g hn.2 hgx hl hF
 have mk : ∀ (ph' : Int) (S' : List Int), (0 ≤ ph' ∧ ph' ≤ 7) → TabOk (2 ^ n) S' → (∀ y, y < 2 ^ n → (ph' + tabS (phS y) S' - (ph + tabS (phS y) S) - ((fk x (mid l y n) : Nat) : Int)) % 8 = 0) → PS n (gs ++ [x]) (ph', cI (rowG x l), S') := fun ph' S' a1 a2 a3 => by
  refine ⟨rowG x l, rfl, r1, r2, a1, a2, fun y hy => ⟨?_, ?_⟩⟩
  ·rw [r3, (hv y hy).1, fsL_snoc]
  ·have b1 := (hv y hy).2
   have b2 := a3 y hy
   rw [(hv y hy).1] at b2
   rw [fkL_snoc]
   simp only at b1 ⊢
   omega
 have row0 : x.Kind ≠ 9 → x.Kind ≠ 11 → rowG x l = l := fun a b => by unfold rowG; rw [if_neg a, if_neg b]
 unfold F_impl_PhasePolyOf_l1
 simp only [getI_nat, hx, Option.bind_some]
 by_cases k9 : x.Kind = 9
 ·have e9 : (x.Kind == 9) = true := by simp [k9]
  obtain ⟨a, ha⟩ : ∃ a : Nat, x.A = a := ⟨x.A.toNat, by omega⟩
  obtain ⟨b, hb⟩ : ∃ b : Nat, x.B = b := ⟨x.B.toNat, by omega⟩
  obtain ⟨c1, c2, c3⟩ := cxM hl hn.2 (show a < n by omega) (show b < n by omega)
  simp only [e9, cond_true, ha, hb, c1, c2, c3, Option.bind_some, orR]
  refine .inl ⟨_, rfl, by unfold phG; rw [hgx, decide_eq_true (show (4 : Int) ≤ x.Kind by omega)]; rfl, ?_⟩
  have := mk ph S hp hS (fun y hy => by
   have : fk x (mid l y n) = 0 := by unfold fk; rw [if_neg (by omega), if_neg (by omega), if_neg (by omega)]
   rw [this]; omega)
  have e : rowG x l = cxL l a b := by unfold rowG; rw [if_pos k9, ha, hb, Int.toNat_natCast, Int.toNat_natCast]
  rw [e] at this
  exact this
 have e9 : (x.Kind == 9) = false := by simp [k9]
 simp only [e9, cond_false]
 by_cases k11 : x.Kind = 11
 ·have e11 : (x.Kind == 11) = true := by simp [k11]
  obtain ⟨a, ha⟩ : ∃ a : Nat, x.A = a := ⟨x.A.toNat, by omega⟩
  obtain ⟨b, hb⟩ : ∃ b : Nat, x.B = b := ⟨x.B.toNat, by omega⟩
  have c1 := cI_get (getD_nat (l := l) (i := a) (by rw [hl.1]; omega))
  have c2 := cI_get (getD_nat (l := l) (i := b) (by rw [hl.1]; omega))
  have c3 : getI ((cI l).set (a : Int).toNat ((l.getD b 0 : Nat) : Int)) (b : Int) = some ((l.getD b 0 : Nat) : Int) := by rw [getI_setI (by omega) (by omega) (by omega)]; exact c2
  simp only [e11, cond_true, ha, hb, c1, c2, c3, Option.bind_some, orR]
  refine .inl ⟨_, rfl, by unfold phG; rw [hgx, decide_eq_true (show (4 : Int) ≤ x.Kind by omega)]; rfl, ?_⟩
  have := mk ph S hp hS (fun y hy => by
   have : fk x (mid l y n) = 0 := by unfold fk; rw [if_neg (by omega), if_neg (by omega), if_neg (by omega)]
   rw [this]; omega)
  have e : rowG x l = swL l a b := by unfold rowG; rw [if_neg k9, if_pos k11, ha, hb, Int.toNat_natCast, Int.toNat_natCast]
  rw [e] at this
  unfold swL at this
  rw [← cI_set, ← cI_set] at this
  exact this
 have e11 : (x.Kind == 11) = false := by simp [k11]
 simp only [e11, cond_false]
 rw [row0 k9 k11] at mk
 by_cases k10 : x.Kind = 10
 ·have e10 : (x.Kind == 10) = true := by simp [k10]
  obtain ⟨a, ha⟩ : ∃ a : Nat, x.A = a := ⟨x.A.toNat, by omega⟩
  obtain ⟨b, hb⟩ : ∃ b : Nat, x.B = b := ⟨x.B.toNat, by omega⟩
  have c1 := cI_get (getD_nat (l := l) (i := a) (by rw [hl.1]; omega))
  have c2 := cI_get (getD_nat (l := l) (i := b) (by rw [hl.1]; omega))
  have la := getD_lt hl.2 a
  have lb := getD_lt hl.2 b
  obtain ⟨S1, f1, t1, v1⟩ := tab_add hS (by omega) la (d := 2) (by omega)
  obtain ⟨S2, f2, t2, v2⟩ := tab_add t1 (by omega) lb (d := 2) (by omega)
  obtain ⟨S3, f3, t3, v3⟩ := tab_add t2 (by omega) (Nat.xor_lt_two_pow la lb) (d := 6) (by omega)
  simp only [e10, cond_true, ha, hb, c1, c2, xor_nat (show l.getD a 0 < 32 by omega) (show l.getD b 0 < 32 by omega), Option.bind_some, f1, f2, f3, orR]
  refine .inl ⟨_, rfl, by unfold phG; rw [hgx, decide_eq_true (show (4 : Int) ≤ x.Kind by omega)]; rfl, mk ph S3 hp t3 (fun y hy => ?_)⟩
  obtain ⟨q1, w1⟩ := v1 (phS y)
  obtain ⟨q2, w2⟩ := v2 (phS y)
  obtain ⟨q3, w3⟩ := v3 (phS y)
  have hfk : fk x (mid l y n) = if pn (l.getD a 0 &&& y) = 1 ∧ pn (l.getD b 0 &&& y) = 1 then 4 else 0 := by
   unfold fk
   rw [if_pos k10, ha, hb, Int.toNat_natCast, Int.toNat_natCast, mid_bit l y n a (by omega), mid_bit l y n b (by omega)]
   simp only [decide_eq_true_eq]
  have hx3 := pn_and_xor (a := l.getD a 0) (b := l.getD b 0) y (by omega) (by omega)
  rw [hfk, w3, w2, w1]
  unfold phS
  have p1 := pn_lt (l.getD a 0 &&& y)
  have p2 := pn_lt (l.getD b 0 &&& y)
  rw [hx3]
  have q1 : pn (l.getD a 0 &&& y) = 0 ∨ pn (l.getD a 0 &&& y) = 1 := by omega
  have q2 : pn (l.getD b 0 &&& y) = 0 ∨ pn (l.getD b 0 &&& y) = 1 := by omega
  rcases q1 with e | e <;> rcases q2 with e' | e' <;> rw [e, e'] <;> simp <;> omega
 have e10 : (x.Kind == 10) = false := by simp [k10]
 simp only [e10, cond_false]
 by_cases k12 : x.Kind = 12
 ·have e12 : (x.Kind == 12) = true := by simp [k12]
  simp only [e12, cond_true, Option.bind_some, orR]
  refine .inl ⟨_, rfl, by unfold phG; rw [hgx, decide_eq_true (show (4 : Int) ≤ x.Kind by omega)]; rfl, ?_⟩
  rw [wrap_i64 (a := ph + 1) ⟨by omega, by omega⟩, Int.tmod_eq_emod_of_nonneg (by omega)]
  refine mk _ S (by omega) hS (fun y hy => ?_)
  have : fk x (mid l y n) = 1 := by unfold fk; rw [if_neg (by omega), if_pos k12]
  rw [this]
  omega
 have e12 : (x.Kind == 12) = false := by simp [k12]
 simp only [e12, cond_false]
 obtain ⟨k, hk1⟩ : ∃ k : Nat, x.Kind = k := ⟨x.Kind.toNat, by omega⟩
 obtain ⟨r, hr, r7, r0, hkap⟩ := coef_kap ⟨k, by omega⟩ (show 1 ≤ k by omega)
 simp only at hr r0 hkap
 rw [hk1, hr]
 simp only [Option.bind_some]
 by_cases hr0 : r = 0
 ·have e : ((r : Int) == 0) = true := by simp [hr0]
  simp only [e, cond_true, Option.bind_some, orR]
  exact .inr trivial
 ·have e : ((r : Int) == 0) = false := by simp [hr0]
  have hk4 : 4 ≤ k := by
   have := mt r0.2 hr0
   omega
  obtain ⟨a, ha⟩ : ∃ a : Nat, x.A = a := ⟨x.A.toNat, by omega⟩
  have c1 := cI_get (getD_nat (l := l) (i := a) (by rw [hl.1]; omega))
  have la := getD_lt hl.2 a
  obtain ⟨S1, f1, t1, v1⟩ := tab_add hS (by omega) la (d := (r : Int)) (by omega)
  simp only [e, cond_false, ha, c1, f1, Option.bind_some, orR]
  refine .inl ⟨_, rfl, by unfold phG; rw [hgx, decide_eq_true (show (4 : Int) ≤ x.Kind by omega)]; rfl, mk ph S1 hp t1 (fun y hy => ?_)⟩
  obtain ⟨q1, w1⟩ := v1 (phS y)
  have hfk : fk x (mid l y n) = kap k (pn (l.getD a 0 &&& y)) := by
   unfold fk
   rw [if_neg k10, if_neg k12, if_pos (by omega), hk1, ha, Int.toNat_natCast, Int.toNat_natCast, b01_mid (by omega)]
  rw [hfk, w1]
  unfold phS
  have p1 := pn_lt (l.getD a 0 &&& y)
  obtain ⟨g0, g1⟩ := hkap hk4
  have q1 : pn (l.getD a 0 &&& y) = 0 ∨ pn (l.getD a 0 &&& y) = 1 := by omega
  rcases q1 with e | e
  ·rw [e, g0]; simp; omega
  ·rw [e, g1]; simp; omega
/-- What PhasePolyOf answers, and what it means. -/
theorem pp_val {c : TCircuit} (hlen : c.Gates.length ≤ 1048576) {p : TPhasePoly} (h : F_impl_PhasePolyOf c = some (p, true)) : ∃ (n : Nat) (l : List Nat), c.Qubits = (n : Int) ∧ cOk c = true ∧ c.Gates.length ≤ 400 ∧ PolyOk p n l ∧ F_impl_IsValidPhasePoly p = some true ∧ NOk n l ∧ Full n l ∧ p.Terms.length ≤ 32 ∧ c.Gates.all (phG n) = true ∧
  ∀ x, x < 2 ^ n → mid l x n = fsL c.Gates x ∧ (p.Phase + termS (phS x) p.Terms - ((fkL c.Gates x : Nat) : Int)) % 8 = 0 := by
 unfold F_impl_PhasePolyOf at h
 rw [impl_good c hlen] at h
 simp only [Option.bind_some] at h
 cases hc : cOk c with
 | false => rw [hc] at h; simp at h
 | true =>
  rw [hc] at h
  simp only [Bool.not_true, cond_false] at h
  unfold cOk at hc
  simp only [Bool.and_eq_true, decide_eq_true_eq] at hc
  obtain ⟨⟨⟨h1, h5⟩, hl⟩, hg⟩ := hc
  obtain ⟨n, hq⟩ : ∃ n : Nat, c.Qubits = n := ⟨c.Qubits.toNat, by omega⟩
  have hn : 1 ≤ n ∧ n ≤ 5 := by omega
  have h32 := pow32 hn.2
  rw [hq] at h hg
  have hid := ident_eq ⟨n, by omega⟩
  simp only at hid
  rw [hid] at h
  simp only [Option.bind_some] at h
  rw [chk_t (show c.Gates.length ≤ 9223372036854775807 by omega)] at h
  have h0 : PS n (c.Gates.take 0) (0, cI (idn n), List.replicate 32 0) := by
   obtain ⟨z1, z2⟩ := tab_zero (2 ^ n)
   refine ⟨idn n, rfl, idn_ok n, idn_full n, by simp only; omega, z1, fun x hx => ⟨mid_idn hn.2 hx, ?_⟩⟩
   simp only
   rw [z2]
   show (0 + 0 - ((0 : Nat) : Int)) % 8 = 0
   decide
  rcases forX_inv (f := F_impl_PhasePolyOf_l1 c) (fun j t => PS n (c.Gates.take j) t ∧ (c.Gates.take j).all (phG n) = true) (fun r => r = (TPhasePoly.mk 0 0 [] (TLinear.mk []), false)) c.Gates.length 0 (0, cI (idn n), List.replicate 32 0) ⟨h0, rfl⟩ (fun j t _ hj hI => by
   have hx := List.getElem?_eq_getElem (show j < c.Gates.length by omega)
   generalize c.Gates[j] = x at hx
   have hgx := List.all_eq_true.1 hg x (List.mem_of_getElem? hx)
   rcases pp_round hn hx hgx hI.1 with ⟨t', e1, e2, e3⟩ | e1
   ·refine .inl ⟨t', e1, ?_⟩
    rw [List.take_add_one, hx]
    refine ⟨e3, ?_⟩
    show (c.Gates.take j ++ [x]).all (phG n) = true
    rw [List.all_append, hI.2, List.all_cons, e2]; rfl
   ·exact .inr ⟨_, e1, rfl⟩) with ⟨t, e1, hI⟩ | ⟨r, e1, rfl⟩
  ·rw [e1] at h
   obtain ⟨ph, O, S⟩ := t
   rw [Nat.zero_add, List.take_length] at hI
   obtain ⟨⟨l, b1, b2, b3, b4, b5, b6⟩, b7⟩ := hI
   simp only at b1 b4 b5 b6
   subst b1
   have ht := tl_terms b5
   simp only [Option.bind_some, orR, ht, Option.some.injEq, Prod.mk.injEq, and_true] at h
   subst h
   obtain ⟨v1, v2⟩ := poly_mk hn b4 b5 b2 b3
   refine ⟨n, l, hq, rfl, hl, v2, v1, b2, b3, tl_len S 32, b7, fun x hx => ⟨(b6 x hx).1, ?_⟩⟩
   have := (b6 x hx).2
   rw [← tl_val b5 (phS_zero x)] at this
   exact this
  ·rw [e1] at h
   simp [orR] at h

theorem gL_pgrid {n : Nat} (hn : 1 ≤ n ∧ n ≤ 5) {g : TGate} (hg : gOk n g = true) (h1 : g.Kind ≠ 1) : gL n g = pgrid (2 ^ n) (2 ^ n) (row1 (gsg n g) (gka n g)) := by
 unfold gL
 rw [sg_gate hn hg h1]; rfl
theorem run_pgrid {n E : Nat} (hn : 1 ≤ n ∧ n ≤ 5) : ∀ (gs : List TGate), gs.all (gOk n) = true → (∀ g ∈ gs, g.Kind ≠ 1) → ∀ c : Nat → Nat → Option Nat,
  runO n E gs (pgrid (2 ^ n) E c) = some (pgrid (2 ^ n) E fun i j => (c (csg n gs i) j).map fun y => cka n gs i + y)
 | [], _, _, c => by
  show some _ = some _
  rw [pgrid_congr (c := c) (c' := fun i j => (c (csg n [] i) j).map fun y => cka n [] i + y) (fun i j _ _ => ?_)]
  show pc (c i j) = pc ((c i j).map fun y => 0 + y)
  cases c i j with
  | none => rfl
  | some y => show pc (some y) = pc (some (0 + y)); rw [Nat.zero_add]
 | g :: t, hg, h1, c => by
  simp only [List.all_cons, Bool.and_eq_true] at hg
  rw [run_cons, gL_pgrid hn hg.1 (h1 g (.head _)), pgrid_mul (fun i hi => gsg_lt hn hg.1 hi)]
  simp only [Option.bind_some]
  rw [run_pgrid hn t hg.2 (fun g' hg' => h1 g' (.tail _ hg')) _]
  congr 1
  refine pgrid_congr fun i j _ _ => ?_
  show pc (((c (gsg n g (csg n t i)) j).map fun y => gka n g (csg n t i) + y).map fun y => cka n t i + y) = pc ((c (gsg n g (csg n t i)) j).map fun y => cka n t i + gka n g (csg n t i) + y)
  cases c (gsg n g (csg n t i)) j with
  | none => rfl
  | some y => simp only [Option.map_some, Nat.add_assoc]
theorem phG_ok {n : Nat} {gs : List TGate} (h : gs.all (phG n) = true) : gs.all (gOk n) = true ∧ ∀ g ∈ gs, g.Kind ≠ 1 := by
 rw [List.all_eq_true] at h
 refine ⟨List.all_eq_true.2 fun g hg => ?_, fun g hg => ?_⟩
 ·have := h g hg; unfold phG at this; simp only [Bool.and_eq_true] at this; exact this.1
 ·have := h g hg; unfold phG at this; simp only [Bool.and_eq_true, decide_eq_true_eq] at this; omega
theorem colL_pgrid_ : ∀ (n : Fin 6) (s : Fin 32), 1 ≤ n.val → s.val < 2 ^ n.val → colL (2 ^ n.val) s.val = pgrid (2 ^ n.val) 1 (fun i _ => if i = s.val then some 0 else none) := by decide +kernel
theorem st_pgrid {n s : Nat} (hn : 1 ≤ n ∧ n ≤ 5) (hs : s < 2 ^ n) {gs : List TGate} (hg : gs.all (phG n) = true) : runO n 1 gs (colL (2 ^ n) s) = some (pgrid (2 ^ n) 1 fun i _ => if csg n gs i = s then some (cka n gs i) else none) := by
 have h32 := pow32 hn.2
 obtain ⟨h1, h2⟩ := phG_ok hg
 rw [colL_pgrid_ ⟨n, by omega⟩ ⟨s, by omega⟩ hn.1 hs, run_pgrid hn gs h1 h2]
 congr 1
 refine pgrid_congr fun i j _ _ => ?_
 simp only
 split <;> rfl
theorem op_pgrid {n : Nat} (hn : 1 ≤ n ∧ n ≤ 5) {gs : List TGate} (hg : gs.all (phG n) = true) : runO n (2 ^ n) gs (unitL (2 ^ n)) = some (pgrid (2 ^ n) (2 ^ n) (row1 (csg n gs) (cka n gs))) := by
 obtain ⟨h1, h2⟩ := phG_ok hg
 rw [unit_pgrid _ (dim_mem (pow_dim hn)), run_pgrid hn gs h1 h2]
 congr 1
 refine pgrid_congr fun i j _ _ => ?_
 unfold row1
 simp only [id]
 split <;> rfl
theorem pc_mod {a b : Nat} (h : a % 8 = b % 8) : pc (some a) = pc (some b) := by
 unfold pc
 simp only
 rw [h]
/-- What two circuits do is the same where they take the basis states alike. -/
theorem op_alike {n : Nat} (hn : 1 ≤ n ∧ n ≤ 5) {gs gs' : List TGate} (hg : gs.all (phG n) = true) (hg' : gs'.all (phG n) = true) (h : ∀ x, x < 2 ^ n → fsL gs x = fsL gs' x ∧ fkL gs x % 8 = fkL gs' x % 8) :
  runO n (2 ^ n) gs (unitL (2 ^ n)) = runO n (2 ^ n) gs' (unitL (2 ^ n)) := by
 rw [op_pgrid hn hg, op_pgrid hn hg']
 congr 1
 refine pgrid_congr fun i j hi _ => ?_
 have c1 := csg_lt hn gs hg i hi
 have r1 := rv_lt hn.2 c1
 have b1 := fs_back hn gs hg i hi
 have ri := rv_lt hn.2 hi
 obtain ⟨e1, e2⟩ := h _ r1.1
 obtain ⟨_, f2, f3⟩ := fs_run hn gs hg _ r1.1
 obtain ⟨_, k2, k3⟩ := fs_run hn gs' hg' _ r1.1
 rw [b1, ri.2] at f2 f3
 rw [← e1, b1, ri.2] at k2 k3
 unfold row1
 rw [r1.2] at k2
 rw [k2]
 split
 ·exact pc_mod (by rw [f3, k3, e2])
 ·rfl
theorem phaseOf_small : ∀ k : Fin 8, F_impl_PhaseOf (phD (k.val : Int)) = some ((k.val : Int), true) := by decide +kernel

def topN (m : Nat) : Nat := Nat.log2 m
def notsL (m : Nat) : List TGate := ((List.range (topN m)).filter fun q => m.testBit q).map fun (q : Nat) => TGate.mk 9 (q : Int) (topN m : Int)
def rotK (k : Nat) : List Int := [[], [7], [5], [5, 7], [4], [4, 7], [6], [8]].getD k []
def rotL (q k : Nat) : List TGate := (rotK k).map fun z => TGate.mk z (q : Int) 0
def seg (m k : Nat) : List TGate := notsL m ++ rotL (topN m) k ++ (notsL m).reverse
theorem seg_ok_ : ∀ (n : Fin 6) (m : Fin 32) (k : Fin 8), 1 ≤ n.val → 1 ≤ m.val → m.val < 2 ^ n.val → (seg m.val k.val).all (phG n.val) = true ∧ (seg m.val k.val).length ≤ 10 := by decide +kernel
theorem seg_val_ : ∀ (m : Fin 32) (k : Fin 8) (y : Fin 32), 1 ≤ m.val → fsL (seg m.val k.val) y.val = y.val ∧ fkL (seg m.val k.val) y.val % 8 = (k.val * pnL.getD (m.val &&& y.val) 0) % 8 := by decide +kernel
theorem seg_val {m k y : Nat} (hm : 1 ≤ m ∧ m < 32) (hk : k < 8) (hy : y < 32) : fsL (seg m k) y = y ∧ fkL (seg m k) y % 8 = (k * pn (m &&& y)) % 8 := by
 obtain ⟨a, b⟩ := seg_val_ ⟨m, hm.2⟩ ⟨k, hk⟩ ⟨y, hy⟩ hm.1
 refine ⟨a, ?_⟩
 have := pn_tab ⟨m &&& y, and32 y hm.2⟩
 simp only at this b
 rw [b, this]
def segs (T : List TTerm) : List TGate := T.flatMap fun t => seg t.Mask.toNat t.Coef.toNat
theorem segs_val {N y : Nat} (hN : N ≤ 32) (hy : y < 32) : ∀ T : List TTerm, (∀ t ∈ T, (1 ≤ t.Mask ∧ t.Mask < (N : Int)) ∧ 1 ≤ t.Coef ∧ t.Coef ≤ 7) → fsL (segs T) y = y ∧ (((fkL (segs T) y : Nat) : Int) - termS (phS y) T) % 8 = 0
 | [], _ => ⟨rfl, rfl⟩
 | t :: T, h => by
  obtain ⟨⟨a1, a2⟩, a3, a4⟩ := h t (.head _)
  obtain ⟨b1, b2⟩ := seg_val (m := t.Mask.toNat) (k := t.Coef.toNat) (y := y) (by omega) (by omega) hy
  obtain ⟨c1, c2⟩ := segs_val hN hy T (fun t ht => h t (.tail _ ht))
  have e : segs (t :: T) = seg t.Mask.toNat t.Coef.toNat ++ segs T := rfl
  rw [e, fsL_app, fkL_app, b1]
  refine ⟨c1, ?_⟩
  show (_ - (phS y t.Mask.toNat * t.Coef + termS (phS y) T)) % 8 = 0
  unfold phS at c2 ⊢
  have p := pn_lt (t.Mask.toNat &&& y)
  have q : pn (t.Mask.toNat &&& y) = 0 ∨ pn (t.Mask.toNat &&& y) = 1 := by omega
  generalize fkL (segs T) y = z at c2 ⊢
  generalize fkL (seg t.Mask.toNat t.Coef.toNat) y = u at b2 ⊢
  generalize termS (fun m => ((pn (m &&& y) : Nat) : Int)) T = v at c2 ⊢
  rcases q with q | q <;> rw [q] at b2 ⊢ <;> omega
theorem segs_ok {n : Nat} (hn : 1 ≤ n ∧ n ≤ 5) : ∀ T : List TTerm, (∀ t ∈ T, (1 ≤ t.Mask ∧ t.Mask < ((2 ^ n : Nat) : Int)) ∧ 1 ≤ t.Coef ∧ t.Coef ≤ 7) → (segs T).all (phG n) = true ∧ (segs T).length ≤ 10 * T.length
 | [], _ => ⟨rfl, Nat.le_refl _⟩
 | t :: T, h => by
  have h32 := pow32 hn.2
  obtain ⟨⟨a1, a2⟩, a3, a4⟩ := h t (.head _)
  obtain ⟨b1, b2⟩ := seg_ok_ ⟨n, by omega⟩ ⟨t.Mask.toNat, by omega⟩ ⟨t.Coef.toNat, by omega⟩ hn.1 (by show 1 ≤ t.Mask.toNat; omega) (by show t.Mask.toNat < 2 ^ n; omega)
  obtain ⟨c1, c2⟩ := segs_ok hn T (fun t ht => h t (.tail _ ht))
  simp only at b1 b2
  have e : segs (t :: T) = seg t.Mask.toNat t.Coef.toNat ++ segs T := rfl
  rw [e, List.all_append, List.length_append, List.length_cons]
  exact ⟨by rw [b1, c1]; rfl, by omega⟩
theorem cx_twice {a b y : Nat} (hab : a ≠ b) : fs (TGate.mk 9 (a : Int) (b : Int)) (fs (TGate.mk 9 (a : Int) (b : Int)) y) = y := by
 unfold fs
 simp only [if_true, Int.toNat_natCast]
 by_cases h : y.testBit a = true
 ·rw [if_pos h, tb_xor, if_neg (Ne.symm hab), if_pos h, xx]
 ·rw [if_neg h, if_neg h]
theorem gsN_ok {n : Nat} (hn : 1 ≤ n ∧ n ≤ 5) {gs : List TGate} (h : GsN n gs) : gs.all (phG n) = true := by
 refine List.all_eq_true.2 fun g hg => ?_
 obtain ⟨a, b, ha, hb, hab, rfl⟩ := h g hg
 have e : (((a : Int) != (b : Int)) : Bool) = true := by rw [ibne, decide_eq_false hab]; rfl
 unfold phG gOk
 simp only [e]
 rw [decide_eq_true (show (0 : Int) ≤ (a : Int) by omega), decide_eq_true (show (a : Int) ≤ (n : Int) - 1 by omega), decide_eq_true (show (0 : Int) ≤ (b : Int) by omega), decide_eq_true (show (b : Int) ≤ (n : Int) - 1 by omega)]
 rfl
/-- Gates that turn a map into the identity, the last first: they are the map. -/
theorem elim_run {n : Nat} (hn : 1 ≤ n ∧ n ≤ 5) : ∀ (gs : List TGate), GsN n gs → ∀ l, NOk n l → Full n l → cxs gs l = idn n → ∀ x, x < 2 ^ n → fsL gs.reverse x = mid l x n ∧ fkL gs.reverse x = 0
 | [], _, l, _, _, h, x, hx => by
  have h : l = idn n := h
  rw [h, mid_idn hn.2 hx]; exact ⟨rfl, rfl⟩
 | g :: t, hg, l, hl, hF, h, x, hx => by
  obtain ⟨a, b, ha, hb, hab, rfl⟩ := hg g (.head _)
  have hgo : gOk n (TGate.mk 9 (a : Int) (b : Int)) = true := by
   have := gsN_ok hn (gs := [TGate.mk 9 (a : Int) (b : Int)]) (fun g hg' => by simp only [List.mem_singleton] at hg'; exact ⟨a, b, ha, hb, hab, hg'⟩)
   simp only [List.all_cons, List.all_nil, Bool.and_true] at this
   unfold phG at this
   simp only [Bool.and_eq_true] at this
   exact this.1
  obtain ⟨r1, r2, r3⟩ := row_g hn.2 hgo hl hF
  have e : rowG (TGate.mk 9 (a : Int) (b : Int)) l = cxG l (TGate.mk 9 (a : Int) (b : Int)) := rfl
  obtain ⟨i1, i2⟩ := elim_run hn t (fun g hg' => hg g (.tail _ hg')) (cxG l (TGate.mk 9 (a : Int) (b : Int))) (by rw [← e]; exact r1) (by rw [← e]; exact r2) h x hx
  rw [List.reverse_cons, fsL_snoc, fkL_snoc, i1, i2, ← e, r3, cx_twice hab]
  exact ⟨rfl, rfl⟩
def wG : TGate := TGate.mk 12 0 0
theorem w_val : ∀ (k x : Nat), fsL (List.replicate k wG) x = x ∧ fkL (List.replicate k wG) x = k
 | 0, _ => ⟨rfl, rfl⟩
 | k + 1, x => by
  obtain ⟨a, b⟩ := w_val k x
  rw [List.replicate_succ]
  refine ⟨?_, ?_⟩
  ·show fsL (List.replicate k wG) (fs wG x) = x
   exact a
  ·show fkL (List.replicate k wG) (fs wG x) + fk wG x = k + 1
   rw [show fs wG x = x from rfl, b]; rfl
theorem w_all {n : Nat} (k : Nat) : (List.replicate k wG).all (phG n) = true := by
 refine List.all_eq_true.2 fun g hg => ?_
 rw [(List.mem_replicate.1 hg).2]
 rfl

/-- Round by round the two have the same. -/
def BesideP (n N : Nat) (j : Nat) (s : List Int × Int × List Int) (t : Int × List Int × List Int) : Prop :=
 s.2.1 = t.1 ∧ s.2.2 = t.2.1 ∧ RowsOk n N s.2.2 ∧ Same N (84 * (j : Int)) s.1 t.2.2 ∧ I64 t.1
theorem pp_both {c : TCircuit} {n : Nat} (hn : 1 ≤ n ∧ n ≤ 5) (hq : c.Qubits = (n : Int)) (hl : c.Gates.length ≤ 400) (hg : c.Gates.all (gOk c.Qubits) = true) (j : Nat) (s : List Int × Int × List Int) (t : Int × List Int × List Int)
  (hj : j < c.Gates.length) (h : BesideP n (2 ^ n) j s t) :
  (∃ s' t', F_spec_PhasePolyOf_l1 c j s = some (.nx s') ∧ F_impl_PhasePolyOf_l1 c j t = some (.nx t') ∧ BesideP n (2 ^ n) (j + 1) s' t') ∨
   ∃ r r', F_spec_PhasePolyOf_l1 c j s = some (.rt r) ∧ F_impl_PhasePolyOf_l1 c j t = some (.rt r') ∧ (r = r' ∧ r = (TPhasePoly.mk 0 0 [] (TLinear.mk []), false)) := by
 obtain ⟨B, ph, R⟩ := s
 obtain ⟨ph', O, S⟩ := t
 obtain ⟨h1, h2, hR, hS, hp⟩ := h
 simp only at h1 h2 hR hS hp
 subst h1 h2
 have hN : 2 ^ n ≤ 32 := by
  have : n = 1 ∨ n = 2 ∨ n = 3 ∨ n = 4 ∨ n = 5 := by omega
  rcases this with rfl | rfl | rfl | rfl | rfl <;> decide
 have hx := List.getElem?_eq_getElem hj
 have hgx := List.all_eq_true.1 hg _ (List.getElem_mem hj)
 generalize c.Gates[j] = x at hx hgx
 rw [hq] at hgx
 have hk := gOk_cases hgx
 have hj4 : (j : Int) < 400 := by omega
 unfold F_spec_PhasePolyOf_l1 F_impl_PhasePolyOf_l1
 simp only [getI_nat, hx, Option.bind_some]
 have hjz : 84 * (((j + 1 : Nat)) : Int) = 84 * (j : Int) + 28 + 28 + 28 := by omega
 by_cases k9 : x.Kind = 9
 ·-- an addition of one wire to another
  obtain ⟨_, _, a0, a1, b0, b1, hab⟩ : 9 ≤ x.Kind ∧ x.Kind ≤ 11 ∧ 0 ≤ x.A ∧ x.A ≤ (n : Int) - 1 ∧ 0 ≤ x.B ∧ x.B ≤ (n : Int) - 1 ∧ x.A ≠ x.B := by rcases hk with h | h | h <;> first | exact h | omega
  obtain ⟨u, hu, huN⟩ := hR.get b0 (by omega)
  obtain ⟨v, hv, hvN⟩ := hR.get a0 (by omega)
  have e9 : (x.Kind == 9) = true := by simp [k9]
  have hlR := hR.1
  simp only [e9, cond_true, hu, hv, cx_eq (show R.length ≤ 32 by omega) hu hv, Option.bind_some, orR]
  refine .inl ⟨_, _, rfl, rfl, rfl, rfl, ?_, hS.mono (by omega), hp⟩
  rw [xor_nat (by omega) (by omega)]
  exact hR.set _ (Nat.xor_lt_two_pow huN hvN)
 have e9 : (x.Kind == 9) = false := by simp [k9]
 simp only [e9, cond_false]
 by_cases k11 : x.Kind = 11
 ·obtain ⟨_, _, a0, a1, b0, b1, hab⟩ : 9 ≤ x.Kind ∧ x.Kind ≤ 11 ∧ 0 ≤ x.A ∧ x.A ≤ (n : Int) - 1 ∧ 0 ≤ x.B ∧ x.B ≤ (n : Int) - 1 ∧ x.A ≠ x.B := by rcases hk with h | h | h <;> first | exact h | omega
  obtain ⟨u, v, hu, hv, huN, hvN, e⟩ := swap_eq hR hN hn.2 rfl a0 (by omega) b0 (by omega) hab
  have e11 : (x.Kind == 11) = true := by simp [k11]
  obtain ⟨r5, e5, e6⟩ := bind_inv e
  obtain ⟨r6, e6, e7⟩ := bind_inv e6
  have e8 : getI (R.set x.A.toNat (u : Int)) x.B = some (u : Int) := by rw [getI_setI a0 b0 hab]; exact hu
  simp only [e11, cond_true, e5, e6, e7, hu, hv, e8, Option.bind_some, orR]
  exact .inl ⟨_, _, rfl, rfl, rfl, rfl, (hR.set _ huN).set _ hvN, hS.mono (by omega), hp⟩
 have e11 : (x.Kind == 11) = false := by simp [k11]
 simp only [e11, cond_false]
 by_cases k10 : x.Kind = 10
 ·obtain ⟨_, _, a0, a1, b0, b1, hab⟩ : 9 ≤ x.Kind ∧ x.Kind ≤ 11 ∧ 0 ≤ x.A ∧ x.A ≤ (n : Int) - 1 ∧ 0 ≤ x.B ∧ x.B ≤ (n : Int) - 1 ∧ x.A ≠ x.B := by rcases hk with h | h | h <;> first | exact h | omega
  obtain ⟨u, hu, huN⟩ := hR.get b0 (by omega)
  obtain ⟨v, hv, hvN⟩ := hR.get a0 (by omega)
  have e10 : (x.Kind == 10) = true := by simp [k10]
  have huv : v ^^^ u < 2 ^ n := Nat.xor_lt_two_pow hvN huN
  obtain ⟨y1, f1, g1, w1, S1⟩ := hS.add (i := (v : Int)) (d := 2) (by omega) (by omega) (by omega) (by omega)
  obtain ⟨y2, f2, g2, w2, S2⟩ := S1.add (i := (u : Int)) (d := 2) (by omega) (by omega) (by omega) (by omega)
  obtain ⟨y3, f3, g3, w3, S3⟩ := S2.add (i := ((v ^^^ u : Nat) : Int)) (d := 6) (by omega) (by omega) (by omega) (by omega)
  simp only [e10, cond_true, hu, hv, xor_nat (show v < 32 by omega) (show u < 32 by omega), Option.bind_some, f1, f2, f3, g1, g2, g3, orR]
  refine .inl ⟨_, _, rfl, rfl, rfl, rfl, hR, ?_, hp⟩
  show Same (2 ^ n) (84 * (((j + 1 : Nat)) : Int)) _ _
  rw [hjz]; exact S3
 have e10 : (x.Kind == 10) = false := by simp [k10]
 simp only [e10, cond_false]
 by_cases k12 : x.Kind = 12
 ·have e12 : (x.Kind == 12) = true := by simp [k12]
  simp only [e12, cond_true, Option.bind_some, orR]
  refine .inl ⟨_, _, rfl, rfl, rfl, rfl, hR, hS.mono (by omega), ?_⟩
  show I64 (Int.tmod _ 8)
  have := Int.tmod_lt_of_pos (IntKind.i64.wrap (ph + 1)) (show (0 : Int) < 8 by decide)
  have h2 := Int.lt_tmod_of_pos (IntKind.i64.wrap (ph + 1)) (show (0 : Int) < 8 by decide)
  exact ⟨by omega, by omega⟩
 have e12 : (x.Kind == 12) = false := by simp [k12]
 simp only [e12, cond_false]
 obtain ⟨_, _, a0, a1⟩ : 1 ≤ x.Kind ∧ x.Kind ≤ 8 ∧ 0 ≤ x.A ∧ x.A ≤ (n : Int) - 1 := by rcases hk with h | h | h <;> first | exact h | omega
 obtain ⟨r, hr, r0, r7⟩ := coef_le x.Kind
 rw [coef_eq, hr]
 simp only [Option.bind_some]
 by_cases hr0 : r = 0
 ·have e : (r == 0) = true := by simp [hr0]
  simp only [e, cond_true, Option.bind_some, orR]
  exact .inr ⟨_, _, rfl, rfl, rfl, rfl⟩
 ·have e : (r == 0) = false := by simp [hr0]
  obtain ⟨v, hv, hvN⟩ := hR.get a0 (by omega)
  obtain ⟨y1, f1, g1, w1, S1⟩ := hS.add (i := (v : Int)) (d := r) (by omega) (by omega) (by omega) (by omega)
  simp only [e, cond_false, hv, f1, g1, Option.bind_some, orR]
  exact .inl ⟨_, _, rfl, rfl, rfl, rfl, hR, S1.mono (by omega), hp⟩
theorem same_answer (c : TCircuit) (hlen : c.Gates.length ≤ 1048576) : ∃ r b, F_spec_PhasePolyOf c = some (r, b) ∧ F_impl_PhasePolyOf c = some (r, b) ∧ r.Terms.length ≤ 1099511627776 ∧ r.Out.Rows.length ≤ 1099511627776 := by
 unfold F_spec_PhasePolyOf F_impl_PhasePolyOf
 rw [spec_good, impl_good c hlen]
 simp only [Option.bind_some]
 cases hc : cOk c with
 | false => exact ⟨_, _, rfl, rfl, by simp, by simp⟩
 | true =>
  simp only [Bool.not_true, cond_false]
  unfold cOk at hc
  simp only [Bool.and_eq_true, decide_eq_true_eq] at hc
  obtain ⟨⟨⟨h1, h5⟩, hl⟩, hg⟩ := hc
  obtain ⟨R, i1, i2, i3, i4, i5⟩ := ident (n := c.Qubits) ⟨h1, h5⟩
  generalize hn : c.Qubits.toNat = n at i3 i5
  have hn5 : 1 ≤ n ∧ n ≤ 5 := by omega
  have hq : c.Qubits = (n : Int) := by omega
  have hN : 2 ^ n ≤ 32 := by
   have : n = 1 ∨ n = 2 ∨ n = 3 ∨ n = 4 ∨ n = 5 := by omega
   rcases this with rfl | rfl | rfl | rfl | rfl <;> decide
  have hM : ((2 ^ n : Nat) : Int) ≤ 1099511627776 := Int.ofNat_le.mpr (Nat.le_trans hN (by decide : 32 ≤ 1099511627776))
  rw [i5, chk_t i4, chk_t ⟨Int.natCast_nonneg _, hM⟩, i1, i2]
  simp only [Option.bind_some]
  rw [chk_t (show c.Gates.length ≤ 9223372036854775807 by omega), chk_t (show c.Gates.length ≤ 9223372036854775807 by omega), Int.toNat_natCast]
  have h0 : BesideP n (2 ^ n) 0 (List.replicate (2 ^ n) 0, 0, R) (0, R, List.replicate 32 0) := by
   refine ⟨rfl, rfl, i3, ⟨by simp, by simp, hN, fun j x hx => ?_, fun j _ hj => by rw [List.getElem?_replicate, if_pos hj]⟩, by unfold I64; omega⟩
   have hj := (List.getElem?_eq_some_iff.1 hx).1
   simp only [List.length_replicate] at hj
   rw [List.getElem?_replicate, if_pos hj] at hx
   cases hx
   exact ⟨by omega, by omega, by rw [List.getElem?_replicate, if_pos (by omega)]; rfl⟩
  rcases forX2_inv (f := F_spec_PhasePolyOf_l1 c) (g := F_impl_PhasePolyOf_l1 c) (BesideP n (2 ^ n)) (fun r r' => r = r' ∧ r = (TPhasePoly.mk 0 0 [] (TLinear.mk []), false)) c.Gates.length 0 _ _ h0
   (fun j s t _ hj hI => pp_both hn5 hq hl hg j s t (by omega) hI) with ⟨s', t', e1, e2, hI⟩ | ⟨r, r', e1, e2, rfl, hr⟩
  ·rw [e1, e2]
   obtain ⟨B, ph, R'⟩ := s'
   obtain ⟨ph', O, S⟩ := t'
   obtain ⟨a1, a2, a3, a4, _⟩ := hI
   simp only at a1 a2 a3 a4
   subst a1 a2
   obtain ⟨l, b1, b2, b3⟩ := terms_eq a4 (by omega)
   simp only [Option.bind_some, orR, b1, b2]
   exact ⟨_, _, rfl, rfl, by simp only; omega, by simp only; rw [a3.1]; omega⟩
  ·rw [e1, e2]
   simp only [Option.bind_some, orR]
   exact ⟨r.1, r.2, rfl, rfl, by rw [hr]; simp, by rw [hr]; simp⟩

theorem rev_gates {l : List TGate} (hl : l.length ≤ 1000) : F_slices_Reverse_impl_Gate_impl_Gate l = some l.reverse := by
 unfold F_slices_Reverse_impl_Gate_impl_Gate
 rw [wr (a := (l.length : Int) - 1) (by omega)]
 have hs := whX_inv (f := F_slices_Reverse_impl_Gate_impl_Gate_l1) (fun s => ∃ t : Nat, s.2.1 = (t : Int) ∧ s.2.2 = (l.length : Int) - 1 - t ∧ 2 * t ≤ l.length + 1 ∧ s.1.length = l.length ∧ ∀ p, p < l.length → s.1[p]? = if p < t ∨ l.length ≤ p + t then l[l.length - 1 - p]? else l[p]?) (fun s => s.1 = l.reverse) (fun _ : List TGate => False) (fun s => l.length + 1 - s.2.1.toNat) (fun s hI => by
  obtain ⟨m1, i, j⟩ := s
  obtain ⟨t, h1, h2, h3, h4, h5⟩ := hI
  simp only at h1 h2 h4 h5
  subst h1 h2
  unfold F_slices_Reverse_impl_Gate_impl_Gate_l1
  simp only
  by_cases hlt : (t : Int) < (l.length : Int) - 1 - t
  ·obtain ⟨j, hj⟩ : ∃ j : Nat, (l.length : Int) - 1 - t = j := ⟨l.length - 1 - t, by omega⟩
   have hjl : j < l.length := by omega
   have htl : t < l.length := by omega
   have e1 := h5 j hjl
   rw [if_neg (by omega), List.getElem?_eq_getElem hjl] at e1
   have e2 := h5 t htl
   rw [if_neg (by omega), List.getElem?_eq_getElem htl] at e2
   have e3 : getI (m1.set t l[j]) (j : Int) = some l[j] := by rw [getI_nat, List.getElem?_set_ne (by omega), e1]
   rw [decide_eq_true hlt, hj]
   simp only [cond_true, Int.toNat_natCast]
   rw [getI_nat, getI_nat, e1, e2]
   simp only [Option.bind_some]
   rw [e3, wr (a := (t : Int) + 1) (by omega), wr (a := (j : Int) - 1) (by omega)]
   refine .inl ⟨_, rfl, ⟨t + 1, by simp, by simp only; omega, by omega, by simp [h4], fun p hp => ?_⟩, by simp only; omega⟩
   simp only
   rw [List.getElem?_set, List.getElem?_set]
   simp only [List.length_set]
   by_cases p1 : j = p
   ·subst p1
    rw [if_pos rfl, if_pos (by omega), if_pos (by omega), show l.length - 1 - j = t by omega, List.getElem?_eq_getElem htl]
   ·rw [if_neg p1]
    by_cases p2 : t = p
    ·subst p2
     rw [if_pos rfl, if_pos (by omega), if_pos (by omega), show l.length - 1 - t = j by omega, List.getElem?_eq_getElem hjl]
    ·rw [if_neg p2, h5 p hp]
     by_cases p3 : p < t ∨ l.length ≤ p + t
     ·rw [if_pos p3, if_pos (by omega)]
     ·rw [if_neg p3, if_neg (by omega)]
  ·rw [decide_eq_false hlt]
   simp only [cond_false]
   refine .inr (.inl ⟨_, rfl, ?_⟩)
   simp only
   refine List.ext_getElem? fun p => ?_
   by_cases hp : p < l.length
   ·rw [h5 p hp, List.getElem?_reverse hp]
    split
    ·rfl
    ·rw [show l.length - 1 - p = p by omega]
   ·rw [List.getElem?_eq_none (by omega), List.getElem?_eq_none (by simp; omega)]) fuel (l, 0, (l.length : Int) - 1) ⟨0, rfl, by simp only; omega, by omega, rfl, fun p hp => by rw [if_neg (by omega)]⟩ (fuel_big (by simp only; omega))
 rcases hs with ⟨s', e1, e2⟩ | ⟨r, _, h⟩
 ·rw [e1]
  obtain ⟨m1, i, j⟩ := s'
  simp only at e2
  subst e2
  rfl
 ·exact h.elim
theorem nots_f : ∀ (m : Fin 32) (k : Fin 8), 1 ≤ m.val → F_math_bits_Len (IntKind.u64.wrap (m.val : Int)) = some ((topN m.val : Int) + 1) ∧ forN (F_impl_PhaseCircuit_l2 (TTerm.mk (m.val : Int) (k.val : Int)) ((topN m.val : Int) + 1)) (topN m.val) 0 [] = some (notsL m.val) ∧ topN m.val < 5 ∧ (notsL m.val).length ≤ 5 ∧ (rotL (topN m.val) k.val).length ≤ 2 := by decide +kernel
theorem rot_f : ∀ (q : Fin 5) (k : Fin 8), F_impl_rotation (q.val : Int) (k.val : Int) = some (rotL q.val k.val) := by decide +kernel
theorem phases_f : ∀ k : Fin 8, F_impl_phases (k.val : Int) = some (List.replicate k.val wG) := by decide +kernel
theorem pc_round {p : TPhasePoly} {i : Nat} {x : TTerm} {out : List TGate} (hx : p.Terms[i]? = some x) (hm : 1 ≤ x.Mask ∧ x.Mask < 32) (hk : 1 ≤ x.Coef ∧ x.Coef ≤ 7) (ho : out.length ≤ 1000) : F_impl_PhaseCircuit_l1 p i out = some (out ++ seg x.Mask.toNat x.Coef.toNat) := by
 obtain ⟨m, k⟩ := x
 obtain ⟨m, rfl⟩ : ∃ z : Nat, m = z := ⟨m.toNat, by simp only at hm; omega⟩
 obtain ⟨k, rfl⟩ : ∃ z : Nat, k = z := ⟨k.toNat, by simp only at hk; omega⟩
 simp only at hm hk
 obtain ⟨a1, a2, a3, a4, a5⟩ := nots_f ⟨m, by omega⟩ ⟨k, by omega⟩ (by show 1 ≤ m; omega)
 simp only at a1 a2 a3 a4 a5
 have a6 := rot_f ⟨topN m, a3⟩ ⟨k, by omega⟩
 simp only at a6
 unfold F_impl_PhaseCircuit_l1
 rw [getI_nat, hx]
 simp only [Option.bind_some]
 rw [a1]
 simp only [Option.bind_some]
 rw [wr (a := (topN m : Int) + 1 - 1) (by omega), show (topN m : Int) + 1 - 1 = (topN m : Int) by omega, Int.toNat_natCast, chk_t (by omega), a2]
 simp only [Option.bind_some]
 rw [chk_t (by omega), a6]
 simp only [Option.bind_some]
 rw [chk_t (by simp only [List.length_append]; omega), rev_gates (by omega)]
 simp only [Option.bind_some]
 rw [chk_t (by simp only [List.length_append]; omega)]
 unfold seg
 simp only [Int.toNat_natCast, List.append_assoc]
theorem poly_cond {p : TPhasePoly} {n : Nat} {l : List Nat} (k0 : PolyOk p n l) : ∀ t ∈ p.Terms, (1 ≤ t.Mask ∧ t.Mask < ((2 ^ n : Nat) : Int)) ∧ 1 ≤ t.Coef ∧ t.Coef ≤ 7 := fun t ht => by
 obtain ⟨m, hm, m1, m2⟩ := poly_mask k0 t ht
 have := poly_coef k0 t ht
 exact ⟨⟨by omega, by rw [hm]; exact Int.ofNat_lt.2 m2⟩, this⟩
/-- The circuit of a phase polynomial, and what it does. -/
theorem pc_val {p : TPhasePoly} {n : Nat} {l : List Nat} (k0 : PolyOk p n l) (v0 : F_impl_IsValidPhasePoly p = some true) (hl : NOk n l) (hF : Full n l) (ht : p.Terms.length ≤ 32) :
  ∃ gs, F_impl_PhaseCircuit p = some (TCircuit.mk (n : Int) gs, true) ∧ gs.all (phG n) = true ∧ gs.length ≤ 400 ∧ ∀ x, x < 2 ^ n → fsL gs x = mid l x n ∧ (((fkL gs x : Nat) : Int) - (p.Phase + termS (phS x) p.Terms)) % 8 = 0 := by
 have hn : 1 ≤ n ∧ n ≤ 5 := ⟨k0.1.1, k0.1.2.1⟩
 have h32 := pow32 hn.2
 have hcond := poly_cond k0
 obtain ⟨g1, g2⟩ := segs_ok hn p.Terms hcond
 obtain ⟨es, e1, e2, e3, e4⟩ := elim_full hl hn.2 hF
 have hq := k0.1.2.2
 have hout := k0.2.2.1.1
 have hph := k0.2.1
 obtain ⟨P, hP⟩ : ∃ P : Nat, p.Phase = P := ⟨p.Phase.toNat, by omega⟩
 have hw := phases_f ⟨P, by omega⟩
 simp only at hw
 obtain ⟨s, f1, f2⟩ := forN_inv (f := F_impl_PhaseCircuit_l1 p) (fun i out => out = segs (p.Terms.take i) ∧ out.length ≤ 10 * i) p.Terms.length 0 [] ⟨rfl, Nat.le_refl _⟩ (fun i out _ hi ⟨h1, h2⟩ => by
  have hx := List.getElem?_eq_getElem (show i < p.Terms.length by omega)
  generalize p.Terms[i] = x at hx
  have hxc := hcond x (List.mem_of_getElem? hx)
  refine ⟨_, pc_round hx (by omega) hxc.2 (by omega), ?_, ?_⟩
  ·rw [List.take_add_one, hx, h1]
   show _ = (p.Terms.take i ++ [x]).flatMap _
   rw [List.flatMap_append]
   unfold segs
   simp only [List.flatMap_cons, List.flatMap_nil, List.append_nil]
  ·have := (segs_ok hn [x] (fun t ht => by simp only [List.mem_singleton] at ht; subst ht; exact hxc)).2
   have e : segs [x] = seg x.Mask.toNat x.Coef.toNat := by unfold segs; simp
   rw [e] at this
   simp only [List.length_singleton] at this
   rw [List.length_append]; omega)
 rw [Nat.zero_add, List.take_length] at f2
 obtain ⟨f2, _⟩ := f2
 subst f2
 have hlen : (segs p.Terms ++ es.reverse ++ List.replicate P wG).length ≤ 400 := by
  simp only [List.length_append, List.length_reverse, List.length_replicate]; omega
 have hall : (segs p.Terms ++ es.reverse ++ List.replicate P wG).all (phG n) = true := by
  rw [List.all_append, List.all_append, g1, w_all, List.all_reverse, gsN_ok hn e2]; rfl
 refine ⟨segs p.Terms ++ es.reverse ++ List.replicate P wG, ?_, hall, hlen, fun x hx => ?_⟩
 ·unfold F_impl_PhaseCircuit
  rw [v0]
  simp only [Option.bind_some, Bool.not_true, cond_false]
  rw [chk_t (by omega), f1]
  simp only [Option.bind_some]
  unfold F_impl_synthesized
  rw [hout, e1]
  simp only [Option.bind_some]
  rw [rev_gates (by omega)]
  simp only [Option.bind_some]
  rw [chk_t (by rw [List.length_reverse]; omega), hP, hw]
  simp only [Option.bind_some]
  rw [chk_t (by simp only [List.length_append, List.length_reverse, List.length_replicate]; omega), hq]
  unfold F_impl_circuitIf
  rw [chk_t (by omega), impl_good _ (by simp only; omega)]
  have hc : cOk (TCircuit.mk (n : Int) (segs p.Terms ++ es.reverse ++ List.replicate P wG)) = true := by
   unfold cOk
   simp only
   rw [(phG_ok hall).1, decide_eq_true (show (1 : Int) ≤ (n : Int) by omega), decide_eq_true (show (n : Int) ≤ 5 by omega), decide_eq_true hlen]; rfl
  rw [hc]; rfl
 ·obtain ⟨a1, a2⟩ := segs_val h32 (show x < 32 by omega) p.Terms hcond
  obtain ⟨b1, b2⟩ := elim_run hn es e2 l hl hF e4 x hx
  obtain ⟨c1, c2⟩ := w_val P (mid l x n)
  rw [fsL_app, fsL_app, fkL_app, fkL_app, fsL_app, a1, b1, b2, c1, c2]
  refine ⟨rfl, ?_⟩
  rw [hP]
  omega

theorem qInts_self {l : List Int} (h : l.length ≤ 9223372036854775807) : F_laws_qInts l l = some true := by
 unfold F_laws_qInts
 rw [show ((l.length : Int) != (l.length : Int)) = false from bne_self_eq_false _]
 simp only [cond_false]
 rw [chk_t h, forX_pass (f := F_laws_qInts_l1 l l) (n := l.length) (s := ()) (fun i hi => by
  unfold F_laws_qInts_l1
  rw [getI_nat, List.getElem?_eq_getElem hi]
  simp only [Option.bind_some, bne_self_eq_false, cond_false])]
 rfl
theorem qTerms_self {l : List TTerm} (h : l.length ≤ 9223372036854775807) : F_laws_qTerms l l = some true := by
 unfold F_laws_qTerms
 rw [show ((l.length : Int) != (l.length : Int)) = false from bne_self_eq_false _]
 simp only [cond_false]
 rw [chk_t h, forX_pass (f := F_laws_qTerms_l1 l l) (n := l.length) (s := ()) (fun i hi => by
  unfold F_laws_qTerms_l1
  rw [getI_nat, List.getElem?_eq_getElem hi]
  simp only [Option.bind_some, beq_self_eq_true, Bool.and_self, Bool.not_true, cond_false])]
 rfl
theorem qPoly_self {p : TPhasePoly} (h1 : p.Terms.length ≤ 9223372036854775807) (h2 : p.Out.Rows.length ≤ 9223372036854775807) : F_laws_qPoly p p = some true := by
 unfold F_laws_qPoly
 simp only [beq_self_eq_true, Bool.and_self, gb, cond_true]
 rw [qTerms_self h1]
 simp only [Option.bind_some, Bool.and_self, cond_true]
 rw [qInts_self h2]
 rfl
theorem drawPp {code : List Int} (hb : BOk code) : ∃ A, F_spec_DrawPhasePolyOf code = some A ∧ A.Gates.length ≤ 10 := by
 unfold F_spec_DrawPhasePolyOf
 obtain ⟨v1, a1, s1, e1, p1, q1, r1⟩ := one_d 8 (by decide) code 0 0 0 hb (by decide) (by decide) (by decide)
 simp only at e1
 rw [e1]; simp only [Option.bind_some]
 cases v1 with
 | true =>
  simp only [cond_true]
  obtain ⟨p, a2, s2, e2, hp, q2, r2⟩ := anyCircuit_d code a1 s1 (0 + 2) hb q1 r1 (by decide)
  rw [e2]
  exact ⟨_, rfl, by simp only; omega⟩
 | false =>
  simp only [cond_false]
  obtain ⟨v2, a2, s2, e2, p2, q2, r2⟩ := pick_d 5 (by decide) code a1 s1 (0 + 2) hb q1 r1 (by decide)
  simp only at e2
  rw [e2]; simp only [Option.bind_some]
  obtain ⟨n, hn⟩ : ∃ n : Nat, 1 + v2 = n := ⟨(1 + v2).toNat, by omega⟩
  rw [wr (a := 1 + v2) (by omega), hn]
  unfold F_spec_l1Cur_cxtz
  obtain ⟨c3, a3, s3, e3, p3, q3, r3⟩ := built_d n (by omega) 10 (by decide) [4, 5, 6, 7, 7, 8, 9, 9, 9, 10, 11, 12] (by decide) (by decide) code a2 s2 (0 + 2 + 2) hb q2 r2 (by decide)
  rw [show F_spec_l1Cur_built (Tl1Cur.mk code a2 s2) (n : Int) 10 [4, 5, 6, 7, 7, 8, 9, 9, 9, 10, 11, 12] = _ from e3]
  exact ⟨_, rfl, p3.2.1⟩
theorem weight_small : ∀ k : Fin 32, (F_laws_qWeight (k.val : Int)).map (fun w => Int.tmod w 2) = some ((pn k.val : Nat) : Int) := by decide +kernel
theorem weight_eq {k : Nat} (hk : k < 32) : ∃ w, F_laws_qWeight (k : Int) = some w ∧ Int.tmod w 2 = ((pn k : Nat) : Int) := by
 have := weight_small ⟨k, hk⟩
 simp only at this
 obtain ⟨w, h1, h2⟩ := Option.map_eq_some_iff.1 this
 exact ⟨w, h1, h2⟩
theorem rev_small : ∀ (n : Fin 6) (x : Fin 32), x.val < 2 ^ n.val → F_laws_qReverse (x.val : Int) (n.val : Int) = some ((rv n.val x.val : Nat) : Int) := by decide +kernel
theorem and_i32 : ∀ (a b : Fin 32), bits .and .i64 (a.val : Int) (b.val : Int) = ((a.val &&& b.val : Nat) : Int) := by decide +kernel
theorem or_sh : ∀ (n : Fin 5) (y : Fin 32) (b : Fin 2), bits .or .i64 (y.val : Int) (shlK .i64 (b.val : Int) (IntKind.u64.wrap (n.val : Int))) = ((y.val ||| (b.val <<< n.val) : Nat) : Int) := by decide +kernel
theorem end_loop {p : TPhasePoly} {l : List Nat} {n x : Nat} (hn : n ≤ 5) (hl : NOk n l) (ho : p.Out = TLinear.mk (cI l)) (hx : x < 32) : ∀ k, k ≤ n → forN (F_laws_FnPhasePolynomials_l2 p x) k 0 0 = some ((mid l x k : Nat) : Int) := by
 have h32 := pow32 hn
 intro k hk
 obtain ⟨s, e1, e2⟩ := forN_inv (f := F_laws_FnPhasePolynomials_l2 p x) (fun i s => s = ((mid l x i : Nat) : Int)) k 0 0 rfl (fun i s _ hi hs => by
  subst hs
  have hil : i < l.length := by rw [hl.1]; omega
  have h1 := cI_get (getD_nat hil)
  have h2 := getD_lt hl.2 i
  unfold F_laws_FnPhasePolynomials_l2
  rw [ho]
  simp only
  rw [h1]
  simp only [Option.bind_some]
  have h3 := and_i32 ⟨l.getD i 0, by omega⟩ ⟨x, hx⟩
  simp only at h3
  obtain ⟨w, w1, w2⟩ := weight_eq (k := l.getD i 0 &&& x) (and32 _ (by omega))
  rw [h3, w1]
  simp only [Option.bind_some]
  have hm := mid_lt l x i
  have hm2 : 2 ^ i ≤ 2 ^ n := Nat.pow_le_pow_right (by decide) (by omega)
  rw [chk_t (by rw [wru (by omega)]; omega), w2, or_sh ⟨i, by omega⟩ ⟨mid l x i, by omega⟩ ⟨pn (l.getD i 0 &&& x), pn_lt _⟩]
  exact ⟨_, rfl, rfl⟩)
 rw [e1, e2, Nat.zero_add]
theorem pgrid_at {N : Nat} {c : Nat → Nat → Option Nat} {i : Nat} (hi : i < N) : getI (pgrid N 1 c) (i : Int) = some (pc (c i 0)) := by
 have := pgrid_get c hi (show 0 < 1 by decide)
 rw [Nat.mul_one, Nat.add_zero, List.getD_eq_getElem?_getD] at this
 have hl : i < (pgrid N 1 c).length := by rw [pgrid_len]; omega
 rw [List.getElem?_eq_getElem hl] at this
 rw [getI_nat, List.getElem?_eq_getElem hl]
 exact congrArg some this
theorem law_FnPhasePolynomials (a0 a1 : List Int) (o0 : a0.length ≤ 9223372036854775807 ∧ ∀ y ∈ a0, U8 y) (o1 : a1.length ≤ 9223372036854775807 ∧ ∀ y ∈ a1, U8 y) : F_laws_FnPhasePolynomials a0 a1 = some true := by
 unfold F_laws_FnPhasePolynomials
 cases hbig : decide (1048576 < (IntKind.i64.wrap ((a0.length : Int) + (a1.length : Int)))) with
 | true => rfl
 | false =>
  simp only [cond_false]
  obtain ⟨c, hd, hlc⟩ := drawPp (code := a0) o0
  rw [hd]; simp only [Option.bind_some]
  obtain ⟨p, ok, s1, i1, t1, t2⟩ := same_answer c (by omega)
  rw [i1, s1]; simp only [Option.bind_some, beq_self_eq_true, Bool.not_true, Bool.not_false, gb, cond_true]
  rw [qPoly_self (p := p) (by omega) (by omega)]
  simp only [Option.bind_some, Bool.not_true, Bool.or_self, cond_false]
  cases ok with
  | false => rfl
  | true =>
   simp only [Bool.not_true, Bool.false_or]
   by_cases h4 : 4 < c.Qubits
   ·rw [decide_eq_true h4]; rfl
   rw [decide_eq_false h4]
   simp only [cond_false]
   obtain ⟨n, l, hq, hc, hlen, k0, v0, hN, hF, ht, hg, hv⟩ := pp_val (by omega) i1
   have hn : 1 ≤ n ∧ n ≤ 5 := ⟨k0.1.1, k0.1.2.1⟩
   have h32 := pow32 hn.2
   have hp := pow_le hn
   have hout := k0.2.2.1.1
   obtain ⟨gs, g1, g2, g3, g4⟩ := pc_val k0 v0 hN hF ht
   have hcs : cOk (TCircuit.mk (n : Int) gs) = true := by
    unfold cOk
    simp only
    rw [(phG_ok g2).1, decide_eq_true (show (1 : Int) ≤ (n : Int) by omega), decide_eq_true (show (n : Int) ≤ 5 by omega), decide_eq_true g3]; rfl
   have hex : F_laws_qExact c (TCircuit.mk (n : Int) gs) = some true := by
    unfold F_laws_qExact
    by_cases h3 : 3 < c.Qubits
    ·rw [decide_eq_true h3]; rfl
    rw [decide_eq_false h3]
    simp only [cond_false]
    rw [(op_both c (by omega)).2.1, (op_both (TCircuit.mk (n : Int) gs) (by simp only; omega)).2.1]
    have ha := op_alike hn hg g2 (fun x hx => ⟨by rw [(g4 x hx).1, (hv x hx).1], by have := (g4 x hx).2; have := (hv x hx).2; omega⟩)
    have r1 : opR c = (TMatrix.mk (2 ^ n : Nat) (2 ^ n : Nat) (pgrid (2 ^ n) (2 ^ n) (row1 (csg n c.Gates) (cka n c.Gates))), true) := by
     unfold opR opO
     rw [hc, hq, Int.toNat_natCast, op_pgrid hn hg]; rfl
    have r2 : opR (TCircuit.mk (n : Int) gs) = (TMatrix.mk (2 ^ n : Nat) (2 ^ n : Nat) (pgrid (2 ^ n) (2 ^ n) (row1 (csg n c.Gates) (cka n c.Gates))), true) := by
     unfold opR opO
     rw [hcs]
     simp only [Int.toNat_natCast]
     rw [← ha, op_pgrid hn hg]; rfl
    rw [r1, r2]
    simp only [Option.bind_some, Bool.and_self, gb, cond_true]
    rw [spec_meq (pgrid_len _ _ _) (pgrid_len _ _ _) hp.2 hp.2, decide_eq_true rfl]
    rfl
   rw [g1]
   simp only [Option.bind_some, Bool.not_true, Bool.not_false, gb, cond_true]
   rw [hex]
   simp only [Option.bind_some, Bool.not_true, Bool.or_self, cond_false]
   rw [hq, shl_u hn, Int.toNat_natCast, chk_t (by omega), forX_pass (f := F_laws_FnPhasePolynomials_l1 p c) (n := 2 ^ n) (s := ()) (fun x hx => ?_)]
   ·rfl
   ·have hxi : x < 2 ^ n := hx
    have hr := rv_lt hn.2 hxi
    have hrs := rev_small ⟨n, by omega⟩ ⟨x, by omega⟩ hxi
    simp only at hrs
    unfold F_laws_FnPhasePolynomials_l1
    rw [phase_at k0 v0 hxi, hq]
    simp only [Option.bind_some]
    rw [hrs]
    simp only [Option.bind_some]
    rw [(st_both c _ (by omega)).2.1]
    have hst : stR c ((rv n x : Nat) : Int) = (TMatrix.mk (2 ^ n : Nat) (1 : Nat) (pgrid (2 ^ n) 1 fun i _ => if csg n c.Gates i = rv n x then some (cka n c.Gates i) else none), true) := by
     unfold stR stOkB stO
     rw [hc, hq, Int.toNat_natCast, Int.toNat_natCast, decide_eq_true (show (0 : Int) ≤ ((rv n x : Nat) : Int) by omega), decide_eq_true (show ((rv n x : Nat) : Int) < ((2 ^ n : Nat) : Int) from Int.ofNat_lt.2 hr.1), st_pgrid hn hr.1 hg]
     rfl
    rw [hst]
    simp only [Option.bind_some]
    have hrow : p.Out.Rows.length = n := by rw [hout]; simp only [cI_len]; exact hN.1
    rw [chk_t (by omega), hrow, end_loop hn.2 hN hout (by omega) n (Nat.le_refl n)]
    simp only [Option.bind_some, Bool.not_true, Bool.or_self, Bool.not_false, Bool.false_or]
    rw [chk_t (fun _ => by rw [wru (by omega)]; omega), pgrid_len, Nat.mul_one, shl_u hn, bne_self_eq_false]
    simp only [cond_false]
    obtain ⟨f1, f2, f3⟩ := fs_run hn c.Gates hg x hxi
    have hmv := (hv x hxi).1
    rw [hmv]
    have hrs2 := rev_small ⟨n, by omega⟩ ⟨fsL c.Gates x, by omega⟩ f1
    simp only at hrs2
    rw [hrs2]
    simp only [Option.bind_some]
    have hr2 := rv_lt hn.2 f1
    rw [pgrid_at hr2.1]
    simp only [Option.bind_some]
    rw [f2, if_pos rfl, f3]
    have hpo := phaseOf_small ⟨fkL c.Gates x % 8, Nat.mod_lt _ (by decide)⟩
    simp only at hpo
    rw [show pc (some (fkL c.Gates x)) = phD ((fkL c.Gates x % 8 : Nat) : Int) from rfl, hpo]
    simp only [Option.bind_some, Bool.not_true, Bool.false_or]
    have hph := (hv x hxi).2
    rw [show ((fkL c.Gates x % 8 : Nat) : Int) = (p.Phase + termS (phS x) p.Terms) % 8 by omega, bne_self_eq_false]
    rfl
end Go.VK
