/- The plain law of FnExactCheckReduction: what its Lean function answers, for all arguments. -/
import Derived.Test.YtbhancgonaleoaaCheckReductionFn
import Derived.Test.YtbhancgonaleoaaLibI
set_option maxRecDepth 10000
set_option maxHeartbeats 1000000
set_option linter.unusedSimpArgs false
set_option linter.unusedVariables false
namespace Go.VK
/-- What a sum is, taken by eight. -/
def m8 (x : Int) : Int := Int.tmod (IntKind.i64.wrap ((Int.tmod x 8) + 8)) 8
theorem m8_eq {x : Int} (h : -1000000 ≤ x ∧ x ≤ 1000000) : m8 x = x % 8 := by
  unfold m8
  by_cases h0 : 0 ≤ x
  · rw [Int.tmod_eq_emod_of_nonneg h0, wrap_i64 ⟨by omega, by omega⟩, Int.tmod_eq_emod_of_nonneg (by omega)]
    omega
  · obtain ⟨y, rfl⟩ : ∃ y, x = -y := ⟨-x, by omega⟩
    rw [Int.neg_tmod, Int.tmod_eq_emod_of_nonneg (show 0 ≤ y by omega), wrap_i64 ⟨by omega, by omega⟩, Int.tmod_eq_emod_of_nonneg (by omega)]
    omega
/-- The two tables of sums say the same: B as it runs, S taken by eight, with a bound. -/
def Same (N : Nat) (z : Int) (B S : List Int) : Prop :=
  B.length = N ∧ S.length = 32 ∧ N ≤ 32 ∧ (∀ (j : Nat) (x : Int), B[j]? = some x → -z ≤ x ∧ x ≤ z ∧ S[j]? = some (x % 8)) ∧ ∀ j, N ≤ j → j < 32 → S[j]? = some 0
theorem Same.mono {N : Nat} {z z' : Int} {B S : List Int} (h : Same N z B S) (hz : z ≤ z') : Same N z' B S :=
  ⟨h.1, h.2.1, h.2.2.1, fun j x hx => ⟨by have := (h.2.2.2.1 j x hx).1; omega, Int.le_trans (h.2.2.2.1 j x hx).2.1 hz, (h.2.2.2.1 j x hx).2.2⟩, h.2.2.2.2⟩
theorem Same.add {N : Nat} {z : Int} {B S : List Int} (h : Same N z B S) (hz : z ≤ 100000) {i d : Int} (h0 : 0 ≤ i) (h1 : i < N) (hd : -28 ≤ d ∧ d ≤ 28) :
    ∃ x, getI B i = some x ∧ F_impl_coefficients_add S i d = some (S.set i.toNat ((x + d) % 8)) ∧ IntKind.i64.wrap (x + d) = x + d ∧ Same N (z + 28) (B.set i.toNat (IntKind.i64.wrap (x + d))) (S.set i.toNat ((x + d) % 8)) := by
  obtain ⟨hB, hS, hN, hj, ho⟩ := h
  obtain ⟨x, hx, hx'⟩ := getI_at h0 (show i < B.length by omega)
  obtain ⟨x0, xz, xs⟩ := hj _ _ hx'
  have hw : IntKind.i64.wrap (x + d) = x + d := wrap_i64 ⟨by omega, by omega⟩
  have hs : getI S i = some (x % 8) := by unfold getI; rw [if_pos h0, xs]
  refine ⟨x, hx, ?_, hw, by simpa using hB, by simpa using hS, hN, ?_, ?_⟩
  · unfold F_impl_coefficients_add
    rw [hs]
    simp only [Option.bind_some]
    rw [wrap_i64 (a := x % 8 + d) ⟨by omega, by omega⟩]
    have := m8_eq (x := x % 8 + d) ⟨by omega, by omega⟩
    unfold m8 at this
    rw [this, show (x % 8 + d) % 8 = (x + d) % 8 by omega]
  · intro j y hy
    rw [List.getElem?_set] at hy ⊢
    by_cases e : i.toNat = j
    · subst e
      rw [if_pos rfl] at hy ⊢
      rw [if_pos (by omega)] at hy ⊢
      cases hy
      rw [hw]
      exact ⟨by omega, by omega, rfl⟩
    · rw [if_neg e] at hy ⊢
      have := hj j y hy
      exact ⟨by omega, by omega, this.2.2⟩
  · intro j hj1 hj2
    rw [List.getElem?_set, if_neg (by omega)]
    exact ho j hj1 hj2
/-- The two lists of terms. -/
theorem terms_eq {N : Nat} {z : Int} {B S : List Int} (h : Same N z B S) (hz : z ≤ 100000) : ∃ l, F_spec_l13List B = some l ∧ F_impl_coefficients_terms S = some l ∧ l.length ≤ 32 := by
  obtain ⟨hB, hS, hN, hj, ho⟩ := h
  unfold F_spec_l13List F_impl_coefficients_terms
  rw [chk_t (by omega)]
  have step : ∀ (i : Nat) (x : Int) (out : List TTerm), out.length ≤ i → i < 32 → S[i]? = some (x % 8) → ∃ out', F_impl_coefficients_terms_l1 S i out = some out' ∧ out'.length ≤ i + 1 ∧
      out' = (bif decide (0 < (i : Int)) && decide (0 < x % 8) then out ++ [TTerm.mk (i : Int) (x % 8)] else out) := fun i x out hl hi hx => by
    unfold F_impl_coefficients_terms_l1
    simp only [getI_nat, hx, Option.bind_some]
    cases decide (0 < (i : Int)) && decide (0 < x % 8)
    · exact ⟨out, rfl, by omega, rfl⟩
    · simp only [cond_true]
      rw [chk_t (by omega)]
      exact ⟨_, rfl, by simp; omega, rfl⟩
  obtain ⟨l, l', h1, h2, h3, h4⟩ := forN2_inv (f := F_spec_l13List_l1 B) (g := F_impl_coefficients_terms_l1 S) (fun i s t => s = t ∧ s.length ≤ i) N 0 [] [] ⟨rfl, Nat.le_refl _⟩ (fun i s t _ hi ⟨hst, hl⟩ => by
    subst hst
    have hi : i < N := by omega
    have hx := List.getElem?_eq_getElem (show i < B.length by omega)
    obtain ⟨x0, xz, xs⟩ := hj _ _ hx
    obtain ⟨out', e1, e2, e3⟩ := step i _ s hl (by omega) xs
    refine ⟨out', out', ?_, e1, rfl, e2⟩
    unfold F_spec_l13List_l1
    simp only [getI_nat, hx, Option.bind_some]
    have := m8_eq (x := B[i]) ⟨by omega, by omega⟩
    unfold m8 at this
    rw [this, e3]
    cases decide (0 < (i : Int)) && decide (0 < B[i] % 8)
    · rfl
    · simp only [cond_true]
      rw [chk_t (by omega)]
      rfl)
  rw [← h3] at h2
  obtain ⟨l'', h5, h6⟩ := forN_inv (f := F_impl_coefficients_terms_l1 S) (fun i s => s = l) (32 - N) N l rfl (fun i s hi1 hi2 hs => by
    subst hs
    refine ⟨s, ?_, rfl⟩
    unfold F_impl_coefficients_terms_l1
    have := ho i hi1 (by omega)
    simp only [getI_nat, this, Option.bind_some]
    simp)
  rw [h6] at h5
  have h7 : forN (F_impl_coefficients_terms_l1 S) 32 0 [] = some l := by
    have : ∀ (k i : Nat) (s r : List TTerm), forN (F_impl_coefficients_terms_l1 S) k i s = some r → forN (F_impl_coefficients_terms_l1 S) (k + (32 - N)) i s = forN (F_impl_coefficients_terms_l1 S) (32 - N) (i + k) r := by
      intro k
      induction k with
      | zero => intro i s r h; cases h; simp
      | succ k ih =>
        intro i s r h
        obtain ⟨s', a1, a2⟩ := forN_go h
        rw [show k + 1 + (32 - N) = k + (32 - N) + 1 by omega]
        show (F_impl_coefficients_terms_l1 S i s).bind _ = _
        rw [a1]
        simp only [Option.bind_some]
        rw [ih _ _ _ a2, show i + 1 + k = i + (k + 1) by omega]
    have := this N 0 [] l h2
    rw [show N + (32 - N) = 32 by omega] at this
    rw [this, Nat.zero_add, h5]
  rw [hB, h1, h7]
  exact ⟨l, rfl, rfl, by omega⟩
/-- The exclusive or of two small numbers. -/
theorem xor_nat {a b : Nat} (ha : a < 32) (hb : b < 32) : bits .xor .i64 (a : Int) (b : Int) = ((a ^^^ b : Nat) : Int) := by
  have h1 : a ^^^ b < 2 ^ 5 := Nat.xor_lt_two_pow ha hb
  show IntKind.i64.wrap ((BitVec.ofInt 64 (a : Int) ^^^ BitVec.ofInt 64 (b : Int)).toNat : Int) = _
  have e1 : BitVec.ofInt 64 (a : Int) = BitVec.ofNat 64 a := rfl
  have e2 : BitVec.ofInt 64 (b : Int) = BitVec.ofNat 64 b := rfl
  rw [e1, e2, BitVec.toNat_xor, BitVec.toNat_ofNat, BitVec.toNat_ofNat, Nat.mod_eq_of_lt (by omega), Nat.mod_eq_of_lt (by omega)]
  exact wrap_i64 ⟨by omega, by omega⟩
/-- The rows of a map over n wires, each a number below N. -/
def RowsOk (n N : Nat) (R : List Int) : Prop := R.length = n ∧ ∀ x ∈ R, 0 ≤ x ∧ x < N
theorem RowsOk.set {n N : Nat} {R : List Int} (h : RowsOk n N R) (i : Nat) {x : Nat} (hx : x < N) : RowsOk n N (R.set i (x : Int)) :=
  ⟨by rw [List.length_set]; exact h.1, fun y hy => by
    rcases List.mem_or_eq_of_mem_set hy with hy | rfl
    · exact h.2 y hy
    · omega⟩
theorem fuelB {n : Nat} (h : n < 18446744073709551616) : n < fuel := h
def Sp : List Nat → Nat → Prop
  | [], v => v = 0
  | x :: t, v => Sp t v ∨ Sp t (v ^^^ x)
theorem xx (a b : Nat) : a ^^^ b ^^^ b = a := by rw [Nat.xor_assoc, Nat.xor_self, Nat.xor_zero]
theorem xr (a b c : Nat) : a ^^^ b ^^^ c = a ^^^ c ^^^ b := by rw [Nat.xor_assoc, Nat.xor_comm b c, ← Nat.xor_assoc]
theorem sp_zero : ∀ L, Sp L 0
  | [] => rfl
  | _ :: t => .inl (sp_zero t)
theorem sp_close : ∀ {L : List Nat} {y v : Nat}, y ∈ L → Sp L v → Sp L (v ^^^ y)
  | z :: t, y, v, hy, hv => by
    rcases List.mem_cons.1 hy with rfl | hy
    · rcases hv with h | h
      · exact .inr (by rw [xx]; exact h)
      · exact .inl h
    · rcases hv with h | h
      · exact .inl (sp_close hy h)
      · exact .inr (by rw [xr]; exact sp_close hy h)
theorem sp_sub : ∀ {L L' : List Nat}, (∀ y ∈ L, y ∈ L') → ∀ {v : Nat}, Sp L v → Sp L' v
  | [], L', _, v, h => by
    have : v = 0 := h
    rw [this]; exact sp_zero L'
  | y :: t, L', hs, v, h => by
    rcases h with h | h
    · exact sp_sub (fun z hz => hs z (List.mem_cons_of_mem _ hz)) h
    · have := sp_close (hs y (List.mem_cons_self ..)) (sp_sub (fun z hz => hs z (List.mem_cons_of_mem _ hz)) h)
      rwa [xx] at this
def red (b x y : Nat) : Nat := if y.testBit b then y ^^^ x else y
theorem red_bit {b x : Nat} (hx : x.testBit b = true) (y : Nat) : (red b x y).testBit b = false := by
  unfold red
  cases h : y.testBit b with
  | true => simp [Nat.testBit_xor, h, hx]
  | false => simp [h]
theorem sp_r1 {b x : Nat} (hx : x.testBit b = true) : ∀ {L : List Nat} {v : Nat}, Sp (L.map (red b x)) v → v.testBit b = false
  | [], v, h => by
    have : v = 0 := h
    rw [this, Nat.zero_testBit]
  | y :: t, v, h => by
    rcases h with h | h
    · exact sp_r1 hx h
    · have h1 := sp_r1 hx h
      rw [Nat.testBit_xor, red_bit hx y] at h1
      simpa using h1
theorem sp_r2 {b x : Nat} : ∀ {L : List Nat} {v : Nat}, Sp (L.map (red b x)) v → Sp L v ∨ Sp L (v ^^^ x)
  | [], v, h => .inl h
  | y :: t, v, h => by
    rcases h with h | h
    · rcases sp_r2 h with h | h
      · exact .inl (.inl h)
      · exact .inr (.inl h)
    · unfold red at h
      split at h
      · rcases sp_r2 h with h | h
        · exact .inr (.inr (by rw [← Nat.xor_assoc, xr] at h; exact h))
        · exact .inl (.inr (by rw [← Nat.xor_assoc, xx] at h; exact h))
      · rcases sp_r2 h with h | h
        · exact .inl (.inr h)
        · exact .inr (.inr (by rw [xr]; exact h))
theorem sp_r3 {b x : Nat} : ∀ {L : List Nat} {v : Nat}, Sp L v → Sp (L.map (red b x)) v ∨ Sp (L.map (red b x)) (v ^^^ x)
  | [], v, h => .inl h
  | y :: t, v, h => by
    have key : ∀ u, (Sp (t.map (red b x)) (u ^^^ red b x y) → Sp ((y :: t).map (red b x)) u) := fun u hu => .inr hu
    rcases h with h | h
    · rcases sp_r3 (b := b) (x := x) h with h | h
      · exact .inl (.inl h)
      · exact .inr (.inl h)
    · rcases sp_r3 (b := b) (x := x) h with h | h
      · by_cases hb : y.testBit b = true
        · refine .inr (key _ ?_)
          unfold red; rw [if_pos hb, ← Nat.xor_assoc, xr (v ^^^ x), xx]; exact h
        · refine .inl (key _ ?_)
          unfold red; rw [if_neg hb]; exact h
      · by_cases hb : y.testBit b = true
        · refine .inl (key _ ?_)
          unfold red; rw [if_pos hb, ← Nat.xor_assoc]; exact h
        · refine .inr (key _ ?_)
          unfold red; rw [if_neg hb, xr]; exact h
theorem sp_red {b x : Nat} (hx : x.testBit b = true) {L : List Nat} {v : Nat} : Sp (L.map (red b x)) v ↔ Sp (x :: L) v ∧ v.testBit b = false := by
  constructor
  · intro h; exact ⟨sp_r2 h, sp_r1 hx h⟩
  · rintro ⟨h, hv⟩
    have no : ∀ {u : Nat}, u.testBit b = false → ¬ Sp (L.map (red b x)) (u ^^^ x) := fun hu h => by
      have := sp_r1 hx h
      rw [Nat.testBit_xor, hu, hx] at this
      simp at this
    rcases h with h | h
    · rcases sp_r3 (b := b) (x := x) h with h | h
      · exact h
      · exact absurd h (no hv)
    · rcases sp_r3 (b := b) (x := x) h with h | h
      · exact absurd h (no hv)
      · rw [xx] at h; exact h
theorem sp_none {b : Nat} : ∀ {L : List Nat} {v : Nat}, (∀ y ∈ L, y.testBit b = false) → Sp L v → v.testBit b = false
  | [], v, _, h => by
    have : v = 0 := h
    rw [this, Nat.zero_testBit]
  | y :: t, v, hn, h => by
    have hy := hn y (List.mem_cons_self ..)
    have ht : ∀ z ∈ t, z.testBit b = false := fun z hz => hn z (List.mem_cons_of_mem _ hz)
    rcases h with h | h
    · exact sp_none ht h
    · have := sp_none ht h
      rw [Nat.testBit_xor, hy] at this
      simpa using this
theorem sp_mem {L : List Nat} {y : Nat} (h : y ∈ L) : Sp L y := by
  have := sp_close h (sp_zero L)
  rwa [Nat.zero_xor] at this
/-- Small numbers as words. -/
def cI (l : List Nat) : List Int := l.map fun (x : Nat) => (x : Int)
theorem cI_len (l : List Nat) : (cI l).length = l.length := by simp [cI]
theorem cI_get {l : List Nat} {i x : Nat} (h : l[i]? = some x) : getI (cI l) (i : Int) = some (x : Int) := by
  rw [getI_nat]; simp [cI, h]
theorem cI_set (l : List Nat) (i x : Nat) : (cI l).set i (x : Int) = cI (l.set i x) := by simp [cI]
def sm5 (l : List Nat) : Prop := ∀ x ∈ l, x < 32
theorem xor32 {a b : Nat} (ha : a < 32) (hb : b < 32) : a ^^^ b < 32 := by
  have : a ^^^ b < 2 ^ 5 := Nat.xor_lt_two_pow ha hb
  omega
theorem tb_small : ∀ (x : Fin 32) (b : Fin 10), ((bits .and .i64 (shrK .i64 (x.val : Int) (b.val : Int)) 1) == 1) = x.val.testBit b.val := by decide +kernel
theorem tb {x b : Nat} (hx : x < 32) (hb : b < 10) : ((bits .and .i64 (shrK .i64 (x : Int) (b : Int)) 1) == 1) = x.testBit b := tb_small ⟨x, hx⟩ ⟨b, hb⟩
theorem wru' {a : Nat} (h : a < 1000) : IntKind.u64.wrap (a : Int) = (a : Int) := by
  simp [IntKind.wrap, IntKind.signed, IntKind.bits]
  omega
theorem red32 {b x y : Nat} (hx : x < 32) (hy : y < 32) : red b x y < 32 := by
  unfold red
  split
  · exact xor32 hy hx
  · exact hy
/-- The specification looks for a row. -/
theorem rank_find {r1 : List Int} {l : List Nat} {b : Nat} (hl : l.length = r1.length) (hs : sm5 l) (hn : l.length ≤ 64) (hb : b < 10) :
    ∀ (q m i : Nat), i + m = l.length → m < q → ∃ (a : Int) (i' : Int), whX (F_spec_l12Rank_l2 r1 (cI l) b) q (-1, (i : Int)) = some (.inl (a, i')) ∧
      ((a = -1 ∧ ∀ j y, i ≤ j → l[j]? = some y → y.testBit b = false) ∨ ∃ (j y : Nat), a = (j : Int) ∧ i ≤ j ∧ l[j]? = some y ∧ y.testBit b = true)
  | 0, _, _, _, h => absurd h (Nat.not_lt_zero _)
  | q + 1, 0, i, hm, _ => by
    refine ⟨-1, i, ?_, .inl ⟨rfl, fun j y hj hy => ?_⟩⟩
    · simp only [whX]
      unfold F_spec_l12Rank_l2
      simp only
      rw [decide_eq_false (show ¬ (i : Int) < (r1.length : Int) by omega)]
      rfl
    · have := (List.getElem?_eq_some_iff.1 hy).1; omega
  | q + 1, m + 1, i, hm, hq => by
    have hi : i < l.length := by omega
    have hx := List.getElem?_eq_getElem hi
    have hx32 := hs l[i] (List.getElem_mem hi)
    have hstep : F_spec_l12Rank_l2 r1 (cI l) b (-1, (i : Int)) = some (bif l[i].testBit b then .br ((i : Int), (i : Int)) else .nx (-1, ((i + 1 : Nat) : Int))) := by
      unfold F_spec_l12Rank_l2
      simp only
      rw [decide_eq_true (show (i : Int) < (r1.length : Int) by omega), cI_get hx]
      simp only [cond_true, Option.bind_some]
      rw [wru' (by omega), chk_t (by omega), tb hx32 hb, wrap_i64 (a := (i : Int) + 1) ⟨by omega, by omega⟩]
      cases l[i].testBit b <;> rfl
    cases hb' : l[i].testBit b with
    | true =>
      rw [hb'] at hstep
      exact ⟨i, i, by simp only [whX, hstep, cond_true, Option.bind_some], .inr ⟨i, l[i], rfl, Nat.le_refl _, hx, hb'⟩⟩
    | false =>
      rw [hb'] at hstep
      obtain ⟨a, i', h1, h2⟩ := rank_find hl hs hn hb q m (i + 1) (by omega) (by omega)
      refine ⟨a, i', by simp only [whX, hstep, cond_false, Option.bind_some]; exact h1, ?_⟩
      rcases h2 with ⟨h2, h3⟩ | ⟨j, y, h2, h3, h4, h5⟩
      · refine .inl ⟨h2, fun j y hj hy => ?_⟩
        by_cases hji : j = i
        · subst hji; rw [hx] at hy; cases hy; exact hb'
        · exact h3 j y (by omega) hy
      · exact .inr ⟨j, y, h2, by omega, h4, h5⟩
theorem rank_elim {l : List Nat} {r b x : Nat} (hs : sm5 l) (hx : x < 32) (hb : b < 10) :
    ∃ l2 : List Nat, forN (F_spec_l12Rank_l3 (r : Int) b (x : Int)) l.length 0 (cI l) = some (cI l2) ∧ l2.length = l.length ∧ sm5 l2 ∧ l2.drop (r + 1) = (l.drop (r + 1)).map (red b x) := by
  obtain ⟨s, h1, l2, rfl, h2, h3⟩ := forN_inv (f := F_spec_l12Rank_l3 (r : Int) b (x : Int)) (fun i s => ∃ l2 : List Nat, s = cI l2 ∧ l2.length = l.length ∧ ∀ j y, l[j]? = some y → l2[j]? = some (if j < i ∧ j ≠ r then red b x y else y)) l.length 0 (cI l)
    ⟨l, rfl, rfl, fun j y hy => by rw [if_neg (by omega)]; exact hy⟩ (fun i s _ hi ⟨l2, hs2, h2, h3⟩ => by
      subst hs2
      have hi : i < l.length := by omega
      have hy := List.getElem?_eq_getElem hi
      have h2i := h3 i _ hy
      rw [if_neg (by omega)] at h2i
      have hy32 := hs l[i] (List.getElem_mem hi)
      unfold F_spec_l12Rank_l3
      by_cases hir : i = r
      · subst hir
        have e : ((i : Int) != (i : Int)) = false := by simp
        rw [e]
        simp only [gb, cond_false, Option.bind_some, Bool.false_and]
        rw [chk_t (fun h => by cases h)]
        refine ⟨cI l2, rfl, l2, rfl, h2, fun j y hjy => ?_⟩
        rw [h3 j y hjy]
        by_cases hji : j = i
        · rw [if_neg (by omega), if_neg (by omega)]
        · by_cases hlt : j < i
          · rw [if_pos (by omega), if_pos (by omega)]
          · rw [if_neg (by omega), if_neg (by omega)]
      · have e : ((i : Int) != (r : Int)) = true := by simp; omega
        rw [e]
        simp only [gb, cond_true, Bool.true_and]
        rw [cI_get h2i]
        simp only [Option.bind_some]
        rw [wru' (by omega), chk_t (fun _ => by omega), tb hy32 hb]
        cases hbit : l[i].testBit b with
        | false =>
          refine ⟨cI l2, rfl, l2, rfl, h2, fun j y hjy => ?_⟩
          rw [h3 j y hjy]
          by_cases hji : j = i
          · subst hji
            rw [hy] at hjy; cases hjy
            rw [if_neg (by omega), if_pos (by omega)]
            unfold red; rw [hbit]; simp
          · by_cases hlt : j < i ∧ j ≠ r
            · rw [if_pos hlt, if_pos (by omega)]
            · rw [if_neg hlt, if_neg (by omega)]
        | true =>
          simp only [cond_true, Option.bind_some, Int.toNat_natCast]
          rw [xor_nat hy32 hx, cI_set]
          refine ⟨_, rfl, _, rfl, by simpa using h2, fun j y hjy => ?_⟩
          rw [List.getElem?_set]
          by_cases hji : i = j
          · subst hji
            rw [hy] at hjy; cases hjy
            rw [if_pos rfl, if_pos (by omega), if_pos (by omega)]
            unfold red; rw [hbit]; rfl
          · rw [if_neg hji, h3 j y hjy]
            by_cases hlt : j < i ∧ j ≠ r
            · rw [if_pos hlt, if_pos (by omega)]
            · rw [if_neg hlt, if_neg (by omega)])
  rw [Nat.zero_add] at h3
  refine ⟨l2, h1, h2, fun y hy => ?_, ?_⟩
  · obtain ⟨j, hj⟩ := List.mem_iff_getElem?.1 hy
    have hjl : j < l.length := by rw [← h2]; exact (List.getElem?_eq_some_iff.1 hj).1
    have := h3 j _ (List.getElem?_eq_getElem hjl)
    rw [hj] at this
    cases this
    have h32 := hs l[j] (List.getElem_mem hjl)
    split
    · exact red32 hx h32
    · exact h32
  · apply List.ext_getElem?
    intro j
    rw [List.getElem?_drop, List.getElem?_map, List.getElem?_drop]
    by_cases hj : r + 1 + j < l.length
    · have hy := List.getElem?_eq_getElem hj
      rw [h3 _ _ hy, hy, if_pos (by omega)]; rfl
    · rw [List.getElem?_eq_none (by omega), List.getElem?_eq_none (by omega)]; rfl
theorem rank_elim2 {l : List Nat} {b x : Nat} (hs : sm5 l) (hx : x < 32) (hb : b < 10) : forN (F_impl_rankOf_l2 b (x : Int)) l.length 0 (cI l) = some (cI (l.map (red b x))) := by
  obtain ⟨s, h1, l2, rfl, h2, h3⟩ := forN_inv (f := F_impl_rankOf_l2 b (x : Int)) (fun i s => ∃ l2 : List Nat, s = cI l2 ∧ l2.length = l.length ∧ ∀ j y, l[j]? = some y → l2[j]? = some (if j < i then red b x y else y)) l.length 0 (cI l)
    ⟨l, rfl, rfl, fun j y hy => by rw [if_neg (by omega)]; exact hy⟩ (fun i s _ hi ⟨l2, hs2, h2, h3⟩ => by
      subst hs2
      have hi : i < l.length := by omega
      have hy := List.getElem?_eq_getElem hi
      have h2i := h3 i _ hy
      rw [if_neg (by omega)] at h2i
      have hy32 := hs l[i] (List.getElem_mem hi)
      unfold F_impl_rankOf_l2
      rw [cI_get h2i]
      simp only [Option.bind_some]
      rw [chk_t (by omega), tb hy32 hb]
      cases hbit : l[i].testBit b with
      | false =>
        refine ⟨cI l2, rfl, l2, rfl, h2, fun j y hjy => ?_⟩
        rw [h3 j y hjy]
        by_cases hji : j = i
        · subst hji
          rw [hy] at hjy; cases hjy
          rw [if_neg (by omega), if_pos (by omega)]
          unfold red; rw [hbit]; simp
        · by_cases hlt : j < i
          · rw [if_pos hlt, if_pos (by omega)]
          · rw [if_neg hlt, if_neg (by omega)]
      | true =>
        simp only [cond_true, Option.bind_some, Int.toNat_natCast]
        rw [xor_nat hy32 hx, cI_set]
        refine ⟨_, rfl, _, rfl, by simpa using h2, fun j y hjy => ?_⟩
        rw [List.getElem?_set]
        by_cases hji : i = j
        · subst hji
          rw [hy] at hjy; cases hjy
          rw [if_pos rfl, if_pos (by omega), if_pos (by omega)]
          unfold red; rw [hbit]; rfl
        · rw [if_neg hji, h3 j y hjy]
          by_cases hlt : j < i
          · rw [if_pos hlt, if_pos (by omega)]
          · rw [if_neg hlt, if_neg (by omega)])
  rw [h1]
  congr 2
  apply List.ext_getElem?
  intro j
  rw [List.getElem?_map]
  by_cases hj : j < l.length
  · have hy := List.getElem?_eq_getElem hj
    rw [h3 _ _ hy, hy, if_pos (by omega)]; rfl
  · rw [List.getElem?_eq_none (by omega), List.getElem?_eq_none (by omega)]; rfl
theorem idx_find {l : List Nat} {b : Nat} (hs : sm5 l) (hn : l.length ≤ 64) (hb : b < 10) :
    ∃ a : Int, F_slices_IndexFunc_int_int (cI l) (fun x_0 => F_impl_rankOf_1 x_0 (b : Int)) = some a ∧ ((a = -1 ∧ ∀ y ∈ l, y.testBit b = false) ∨ ∃ j y : Nat, a = (j : Int) ∧ l[j]? = some y ∧ y.testBit b = true) := by
  unfold F_slices_IndexFunc_int_int
  rw [chk_t (by rw [cI_len]; omega)]
  rcases forX_inv (f := F_slices_IndexFunc_int_int_l1 (cI l) (fun x_0 => F_impl_rankOf_1 x_0 (b : Int))) (fun i _ => ∀ j y, j < i → l[j]? = some y → y.testBit b = false) (fun r => ∃ j y : Nat, r = (j : Int) ∧ l[j]? = some y ∧ y.testBit b = true) (cI l).length 0 () (fun j y hj => absurd hj (Nat.not_lt_zero _)) (fun i s _ hi hI => by
    rw [cI_len] at hi
    have hi : i < l.length := by omega
    have hy := List.getElem?_eq_getElem hi
    have hy32 := hs l[i] (List.getElem_mem hi)
    unfold F_slices_IndexFunc_int_int_l1 F_impl_rankOf_1
    rw [cI_get hy]
    simp only [Option.bind_some]
    rw [chk_t (by omega), tb hy32 hb]
    simp only [Option.bind_some]
    cases hbit : l[i].testBit b with
    | true => exact .inr ⟨_, rfl, i, l[i], rfl, hy, hbit⟩
    | false =>
      refine .inl ⟨(), rfl, fun j y hj hjy => ?_⟩
      by_cases hji : j = i
      · subst hji; rw [hy] at hjy; cases hjy; exact hbit
      · exact hI j y (by omega) hjy) with ⟨⟨⟩, h1, h2⟩ | ⟨r, h1, j, y, rfl, h3, h4⟩
  · rw [h1]
    refine ⟨-1, rfl, .inl ⟨rfl, fun y hy => ?_⟩⟩
    obtain ⟨j, hj⟩ := List.mem_iff_getElem?.1 hy
    exact h2 j y (by rw [cI_len, Nat.zero_add]; exact (List.getElem?_eq_some_iff.1 hj).1) hj
  · rw [h1]; exact ⟨_, rfl, .inr ⟨j, y, rfl, h3, h4⟩⟩
/-- The two ranks run beside each other. -/
def RankS (n : Nat) (s t : List Int × Int) : Prop := ∃ (l m : List Nat) (r : Nat), s = (cI l, (r : Int)) ∧ t = (cI m, (r : Int)) ∧ l.length = n ∧ r ≤ n ∧ m.length ≤ n ∧ sm5 l ∧ sm5 m ∧ ∀ v, Sp (l.drop r) v ↔ Sp m v
theorem rank_round {n b : Nat} (hn : n ≤ 5) (hb : b < 10) {r1 : List Int} (hr1 : r1.length = n) {s t : List Int × Int} (h : RankS n s t) :
    ∃ s' t', F_spec_l12Rank_l1 r1 b s = some s' ∧ F_impl_rankOf_l1 b t = some t' ∧ RankS n s' t' := by
  obtain ⟨l, m, r, rfl, rfl, hl, hr, hm, sl, smm, hSp⟩ := h
  obtain ⟨a, i', f1, f2⟩ := rank_find (r1 := r1) (l := l) (b := b) (by omega) sl (by omega) hb fuel (l.length - r) r (by omega) (fuelB (by omega))
  obtain ⟨a', g1, g2⟩ := idx_find (l := m) (b := b) smm (by omega) hb
  unfold F_spec_l12Rank_l1 F_impl_rankOf_l1
  simp only
  rw [f1, g1]
  simp only [Option.bind_some, orR]
  have hmemd : ∀ y, y ∈ l.drop r ↔ ∃ j, r ≤ j ∧ l[j]? = some y := fun y => by
    rw [List.mem_iff_getElem?]
    constructor
    · rintro ⟨j, hj⟩; rw [List.getElem?_drop] at hj; exact ⟨r + j, by omega, hj⟩
    · rintro ⟨j, hj, h⟩; exact ⟨j - r, by rw [List.getElem?_drop, show r + (j - r) = j by omega]; exact h⟩
  rcases f2 with ⟨rfl, f2⟩ | ⟨p, x, rfl, hp, hpx, hxb⟩
  · -- none in the specification: none in the program
    have hnone : ∀ y ∈ m, y.testBit b = false := fun y hy => sp_none (L := l.drop r) (fun z hz => by obtain ⟨j, h1, h2⟩ := (hmemd z).1 hz; exact f2 j z h1 h2) ((hSp y).2 (sp_mem hy))
    rcases g2 with ⟨rfl, _⟩ | ⟨j, y, rfl, h1, h2⟩
    · exact ⟨_, _, rfl, rfl, l, m, r, rfl, rfl, hl, hr, hm, sl, smm, hSp⟩
    · rw [hnone y (List.mem_of_getElem? h1)] at h2; cases h2
  · rcases g2 with ⟨rfl, g2⟩ | ⟨p', x', rfl, hpx', hxb'⟩
    · have := sp_none g2 ((hSp x).1 (sp_mem ((hmemd x).2 ⟨p, hp, hpx⟩)))
      rw [this] at hxb; cases hxb
    · have hpl : p < l.length := (List.getElem?_eq_some_iff.1 hpx).1
      have hrl : r < l.length := by omega
      have hrx := List.getElem?_eq_getElem hrl
      have hx32 := sl x (List.mem_of_getElem? hpx)
      have hx32' := smm x' (List.mem_of_getElem? hpx')
      have hr32 := sl l[r] (List.getElem_mem hrl)
      have hpl' : p' < m.length := (List.getElem?_eq_some_iff.1 hpx').1
      rw [decide_eq_false (show ¬ (p : Int) < 0 by omega), decide_eq_false (show ¬ (p' : Int) < 0 by omega)]
      simp only [cond_false]
      rw [cI_get hpx, cI_get hrx, cI_get hpx']
      simp only [Option.bind_some, Int.toNat_natCast]
      rw [cI_set]
      have hr2 : ∃ z, (l.set p l[r])[r]? = some z := ⟨_, List.getElem?_eq_getElem (by simpa using hrl)⟩
      obtain ⟨z, hz⟩ := hr2
      rw [cI_get hz, cI_set]
      simp only [Option.bind_some]
      rw [chk_t (by omega)]
      -- the specification's rows
      generalize hl1 : (l.set p l[r]).set r x = l1
      have l1len : l1.length = l.length := by rw [← hl1]; simp
      have l1get : ∀ j, l1[j]? = if j = r then (if j < l.length then some x else none) else if j = p then (if j < l.length then some l[r] else none) else l[j]? := fun j => by
        rw [← hl1, List.getElem?_set, List.getElem?_set]
        by_cases h1 : r = j
        · subst h1; rw [if_pos rfl, if_pos rfl, List.length_set]
        · rw [if_neg h1, if_neg (Ne.symm h1)]
          by_cases h2 : p = j
          · subst h2; simp
          · rw [if_neg h2, if_neg (Ne.symm h2)]
      have sl1 : sm5 l1 := fun y hy => by
        obtain ⟨j, hj⟩ := List.mem_iff_getElem?.1 hy
        rw [l1get] at hj
        split at hj
        · split at hj
          · cases hj; exact hx32
          · cases hj
        · split at hj
          · split at hj
            · cases hj; exact hr32
            · cases hj
          · exact sl y (List.mem_of_getElem? hj)
      obtain ⟨l2, e1, e2, e3, e4⟩ := rank_elim (l := l1) (r := r) (b := b) (x := x) sl1 hx32 hb
      rw [show r1.length = l1.length by omega, e1]
      -- the program's rows
      have hdel : F_slices_Delete_int_int (cI m) (p' : Int) (IntKind.i64.wrap ((p' : Int) + 1)) = some (cI (m.take p' ++ m.drop (p' + 1))) := by
        unfold F_slices_Delete_int_int
        rw [wrap_i64 (a := (p' : Int) + 1) ⟨by omega, by omega⟩, chk_t (by rw [cI_len]; omega)]
        have e : ((p' : Int) == (p' : Int) + 1) = false := beq_eq_false_iff_ne.2 (by omega)
        rw [e]
        simp only [cond_false]
        rw [chk_t (by omega)]
        have e2 : ((p' : Int) + 1).toNat = p' + 1 := by omega
        rw [Int.toNat_natCast, e2]
        unfold cI
        rw [List.map_append, List.map_take, List.map_drop]
      rw [hdel]
      simp only [Option.bind_some]
      generalize hm1 : m.take p' ++ m.drop (p' + 1) = m1
      have hmx : m = m.take p' ++ x' :: m.drop (p' + 1) := by
        have := List.getElem?_eq_some_iff.1 hpx'
        obtain ⟨h1, h2⟩ := this
        rw [← h2, List.getElem_cons_drop, List.take_append_drop]
      have mmem : ∀ y, y ∈ x' :: m1 ↔ y ∈ m := fun y => by
        rw [← hm1]
        conv => rhs; rw [hmx]
        simp only [List.mem_cons, List.mem_append]
        constructor
        · rintro (h | h | h)
          · exact .inr (.inl h)
          · exact .inl h
          · exact .inr (.inr h)
        · rintro (h | h | h)
          · exact .inr (.inl h)
          · exact .inl h
          · exact .inr (.inr h)
      have sm1 : sm5 m1 := fun y hy => smm y ((mmem y).1 (List.mem_cons_of_mem _ hy))
      have m1len : m1.length + 1 = m.length := by
        have := congrArg List.length hmx
        rw [← hm1]
        simp at this ⊢
        omega
      rw [cI_len, chk_t (by omega), rank_elim2 sm1 hx32' hb]
      simp only [Option.bind_some]
      rw [wrap_i64 (a := (r : Int) + 1) ⟨by omega, by omega⟩]
      refine ⟨_, _, rfl, rfl, l2, m1.map (red b x'), r + 1, rfl, rfl, by omega, by omega, by simp; omega, e3, fun y hy => ?_, fun v => ?_⟩
      · obtain ⟨z, hz, rfl⟩ := List.mem_map.1 hy
        exact red32 hx32' (sm1 z hz)
      · rw [e4, sp_red hxb, sp_red hxb']
        have k1 : ∀ u, Sp (x :: l1.drop (r + 1)) u ↔ Sp (l.drop r) u := fun u => by
          constructor
          · refine sp_sub (fun y hy => ?_)
            rcases List.mem_cons.1 hy with rfl | hy
            · exact (hmemd y).2 ⟨p, hp, hpx⟩
            · obtain ⟨j, hj⟩ := List.mem_iff_getElem?.1 hy
              rw [List.getElem?_drop, l1get, if_neg (by omega)] at hj
              split at hj
              · split at hj
                · cases hj; exact (hmemd _).2 ⟨r, Nat.le_refl _, hrx⟩
                · cases hj
              · exact (hmemd y).2 ⟨r + 1 + j, by omega, hj⟩
          · refine sp_sub (fun y hy => ?_)
            obtain ⟨j, hj, hjy⟩ := (hmemd y).1 hy
            have hjl := (List.getElem?_eq_some_iff.1 hjy).1
            by_cases hjp : j = p
            · subst hjp; rw [hpx] at hjy; cases hjy; exact List.mem_cons_self ..
            · by_cases hjr : j = r
              · subst hjr
                rw [hrx] at hjy; cases hjy
                refine List.mem_cons_of_mem _ (List.mem_iff_getElem?.2 ⟨p - (j + 1), ?_⟩)
                rw [List.getElem?_drop, l1get, show j + 1 + (p - (j + 1)) = p by omega, if_neg (by omega), if_pos rfl, if_pos hpl]
              · refine List.mem_cons_of_mem _ (List.mem_iff_getElem?.2 ⟨j - (r + 1), ?_⟩)
                rw [List.getElem?_drop, l1get, show r + 1 + (j - (r + 1)) = j by omega, if_neg hjr, if_neg hjp]; exact hjy
        have k2 : ∀ u, Sp (x' :: m1) u ↔ Sp m u := fun u => ⟨sp_sub (fun y hy => (mmem y).1 hy), sp_sub (fun y hy => (mmem y).2 hy)⟩
        rw [k1, k2, hSp]
theorem rank_both {l : List Nat} (hn : l.length ≤ 5) (hs : sm5 l) : ∃ r : Int, F_spec_l12Rank (cI l) = some r ∧ F_impl_rankOf (cI l) = some r := by
  have h0 : RankS l.length (cI l, 0) (cI l, 0) := ⟨l, l, 0, rfl, rfl, rfl, by omega, by omega, hs, hs, fun v => by rw [List.drop_zero]⟩
  obtain ⟨s, t, h1, h2, h3⟩ := forN2_inv (f := F_spec_l12Rank_l1 (cI l)) (g := F_impl_rankOf_l1) (fun _ s t => RankS l.length s t) 10 0 _ _ h0 (fun b s t _ hb h => rank_round hn (by omega) (cI_len l) h)
  obtain ⟨l', m', r, rfl, rfl, _⟩ := h3
  refine ⟨r, ?_, ?_⟩
  · unfold F_spec_l12Rank F_spec_l1Own
    rw [chk_t (by rw [cI_len]; omega)]
    simp only [Option.bind_some]
    rw [h1]; rfl
  · unfold F_impl_rankOf F_slices_Clone_int_int
    rw [chk_t (by rw [cI_len]; omega)]
    simp only [Option.bind_some]
    rw [h2]; rfl
theorem pow32 {n : Nat} (h : n ≤ 5) : 2 ^ n ≤ 32 := by
  have : 2 ^ n ≤ 2 ^ 5 := Nat.pow_le_pow_right (by decide) h
  omega
theorem spec_in : F_spec_l1In = F_impl_within := rfl
theorem in_eq (n a b : Int) : F_impl_within n a b = some (decide (a ≤ n) && decide (n ≤ b)) := rfl
theorem bsV {α : Type} {b : Bool} {x y : α} : (bif b then some x else some y) = some (bif b then x else y) := by cases b <;> rfl
theorem shl_small {n : Int} (h : 1 ≤ n ∧ n ≤ 5) : (0 : Int) ≤ IntKind.u64.wrap n ∧ shlK .i64 1 (IntKind.u64.wrap n) = ((2 ^ n.toNat : Nat) : Int) ∧ shlK .i64 1 n = ((2 ^ n.toNat : Nat) : Int) ∧ 2 ^ n.toNat ≤ 32 ∧ 2 ≤ 2 ^ n.toNat ∧
    IntKind.i64.wrap (((2 ^ n.toNat : Nat) : Int) - 1) = ((2 ^ n.toNat : Nat) : Int) - 1 := by
  have : n = 1 ∨ n = 2 ∨ n = 3 ∨ n = 4 ∨ n = 5 := by omega
  rcases this with rfl | rfl | rfl | rfl | rfl <;> decide
theorem index_eqI {l : List Int} {f : Int → Option Bool} {p : Int → Bool} (hl : l.length ≤ 9223372036854775807) (hf : ∀ x, f x = some (p x)) :
    ∃ i, F_slices_IndexFunc_int_int l f = some i ∧ decide (0 ≤ i) = l.any p := by
  unfold F_slices_IndexFunc_int_int
  rw [chk_t hl]
  rcases forX_any (f := F_slices_IndexFunc_int_int_l1 l f) (l := l) (p := p) (q := fun i => (i : Int)) (fun i x hx => by
    unfold F_slices_IndexFunc_int_int_l1
    simp only [getI_nat, hx, Option.bind_some, hf, bsV]) with ⟨h1, h2⟩ | ⟨h1, i, _, h2⟩
  · rw [h2, h1]; exact ⟨-1, rfl, by decide⟩
  · rw [h2, h1]; exact ⟨i, rfl, by simp⟩
theorem contains_eqI {l : List Int} {f : Int → Option Bool} {p : Int → Bool} (hl : l.length ≤ 9223372036854775807) (hf : ∀ x, f x = some (p x)) :
    F_slices_ContainsFunc_int_int l f = some (l.any p) := by
  unfold F_slices_ContainsFunc_int_int
  obtain ⟨i, h1, h2⟩ := index_eqI hl hf
  rw [h1]; simp only [Option.bind_some, h2]
theorem any_not {α : Type} {l : List α} {p : α → Bool} : (l.any fun x => !p x) = !l.all p := by
  induction l with
  | nil => rfl
  | cons x l ih => simp only [List.any_cons, List.all_cons, ih, Bool.not_and]
theorem l1All_eq {l : List Int} (hl : l.length ≤ 9223372036854775807) (a b : Int) : F_spec_l1All l a b = some (l.all fun x => decide (a ≤ x) && decide (x ≤ b)) := by
  unfold F_spec_l1All
  rw [chk_t hl]
  rcases forX_any (f := F_spec_l1All_l1 l a b) (l := l) (p := fun x => !(decide (a ≤ x) && decide (x ≤ b))) (q := fun _ => false) (fun i x hx => by
    unfold F_spec_l1All_l1 F_spec_l1In
    simp only [getI_nat, hx, Option.bind_some, bsV]) with ⟨h1, h2⟩ | ⟨h1, i, _, h2⟩
  · rw [h2]
    rw [any_not] at h1
    simp only [Option.bind_some, orR]
    rw [show (l.all fun x => decide (a ≤ x) && decide (x ≤ b)) = true by simpa using h1]
  · rw [h2]
    rw [any_not] at h1
    simp only [Option.bind_some, orR]
    rw [show (l.all fun x => decide (a ≤ x) && decide (x ≤ b)) = false by simpa using h1]
/-- A list of small numbers is one of words. -/
theorem cI_of {R : List Int} (h : ∀ x ∈ R, 0 ≤ x) : R = cI (R.map Int.toNat) := by
  unfold cI
  rw [List.map_map]
  conv => lhs; rw [← List.map_id R]
  apply List.map_congr_left
  intro x hx
  have := h x hx
  simp only [id, Function.comp]
  omega
/-- Both say the same of a linear map. -/
theorem lin_both {R : List Int} (hl : R.length ≤ 9223372036854775807) : ∃ b, F_spec_l12Valid (TLinear.mk R) = some b ∧ F_impl_IsValidLinear (TLinear.mk R) = some b ∧
    (b = true → ∃ l : List Nat, R = cI l ∧ 1 ≤ l.length ∧ l.length ≤ 5 ∧ (∀ x ∈ l, x < 2 ^ l.length) ∧ F_spec_l12Rank R = some (R.length : Int)) := by
  unfold F_spec_l12Valid F_impl_IsValidLinear
  rw [spec_in, in_eq]
  simp only [Option.bind_some]
  by_cases hn : 1 ≤ (R.length : Int) ∧ (R.length : Int) ≤ 5
  · obtain ⟨s1, s2, s3, s4, s5, s6⟩ := shl_small hn
    rw [decide_eq_true hn.1, decide_eq_true hn.2]
    simp only [Bool.and_self, Bool.true_and, gb, cond_true]
    rw [chk_t (fun _ => s1), s2, s6, l1All_eq hl, contains_eqI (p := fun x => !(decide (0 ≤ x) && decide (x ≤ ((2 ^ ((R.length : Int)).toNat : Nat) : Int) - 1))) hl (fun x => by
      unfold F_impl_IsValidLinear_1
      rw [chk_t (by omega), s3, s6, in_eq]; rfl)]
    simp only [Option.bind_some, any_not, Bool.not_not]
    cases hall : R.all fun x => decide (0 ≤ x) && decide (x ≤ ((2 ^ ((R.length : Int)).toNat : Nat) : Int) - 1) with
    | false => exact ⟨false, by simp, by simp, fun h => by cases h⟩
    | true =>
      have hx : ∀ x ∈ R, 0 ≤ x ∧ x ≤ ((2 ^ ((R.length : Int)).toNat : Nat) : Int) - 1 := fun x hx => by
        have := List.all_eq_true.1 hall x hx
        simpa using this
      have hR := cI_of (fun x hx' => (hx x hx').1)
      have hlen : (R.map Int.toNat).length = R.length := by simp
      have hsm : ∀ x ∈ R.map Int.toNat, x < 2 ^ (R.map Int.toNat).length := fun x hx' => by
        obtain ⟨y, hy, rfl⟩ := List.mem_map.1 hx'
        have := hx y hy
        rw [hlen]
        rw [Int.toNat_natCast] at this
        omega
      obtain ⟨r, r1, r2⟩ := rank_both (l := R.map Int.toNat) (by omega) (fun x hx' => by
        have := hsm x hx'
        rw [hlen] at this
        rw [Int.toNat_natCast] at s4
        omega)
      rw [← hR] at r1 r2
      simp only [cond_true]
      rw [r1, r2]
      simp only [Option.bind_some, Bool.and_self, Bool.true_and]
      refine ⟨_, rfl, rfl, fun hb => ⟨R.map Int.toNat, hR, by omega, by omega, hsm, ?_⟩⟩
      have := eq_of_beq hb
      rw [this]
  · have e : (decide (1 ≤ (R.length : Int)) && decide ((R.length : Int) ≤ 5)) = false := by
      simp only [Bool.and_eq_false_iff, decide_eq_false_iff_not]; omega
    rw [e]
    simp only [gb, cond_false, Option.bind_some, Bool.false_and]
    rw [chk_t (fun h => by cases h)]
    exact ⟨false, rfl, rfl, fun h => by cases h⟩
/-- A phase polynomial that is taken, over n wires. -/
def PolyOk (p : TPhasePoly) (n : Nat) (l : List Nat) : Prop :=
  (1 ≤ n ∧ n ≤ 5 ∧ p.Qubits = (n : Int)) ∧ (0 ≤ p.Phase ∧ p.Phase ≤ 7) ∧ (p.Out = TLinear.mk (cI l) ∧ l.length = n ∧ (∀ x ∈ l, x < 2 ^ n) ∧ F_spec_l12Rank (cI l) = some (n : Int) ∧ F_spec_l12Valid p.Out = some true ∧ F_impl_IsValidLinear p.Out = some true) ∧
  (∀ (i : Nat) x, p.Terms[i]? = some x → (1 ≤ x.Mask ∧ x.Mask < ((2 ^ n : Nat) : Int) ∧ 1 ≤ x.Coef ∧ x.Coef ≤ 7)) ∧ (∀ (i : Nat) x y, p.Terms[i]? = some x → p.Terms[i + 1]? = some y → x.Mask < y.Mask)
theorem areTerms_both {T : List TTerm} {n : Int} (hn : 1 ≤ n ∧ n ≤ 5) (hl : T.length ≤ 9223372036854775807) : ∃ b, F_impl_areTerms n T = some b ∧
    (b = true → (∀ (i : Nat) x, T[i]? = some x → (1 ≤ x.Mask ∧ x.Mask < ((2 ^ n.toNat : Nat) : Int) ∧ 1 ≤ x.Coef ∧ x.Coef ≤ 7)) ∧ (∀ (i : Nat) x y, T[i]? = some x → T[i + 1]? = some y → x.Mask < y.Mask)) := by
  obtain ⟨s1, s2, s3, s4, s5, s6⟩ := shl_small hn
  unfold F_impl_areTerms
  rw [chk_t hl]
  rcases forX_inv (f := F_impl_areTerms_l1 T n) (fun k _ => (∀ (i : Nat) x, i < k → T[i]? = some x → (1 ≤ x.Mask ∧ x.Mask < ((2 ^ n.toNat : Nat) : Int) ∧ 1 ≤ x.Coef ∧ x.Coef ≤ 7)) ∧ (∀ (i : Nat) x y, i + 1 < k → T[i]? = some x → T[i + 1]? = some y → x.Mask < y.Mask)) (fun r => r = false)
    T.length 0 () ⟨fun i x h => absurd h (Nat.not_lt_zero _), fun i x y h => absurd h (Nat.not_lt_zero _)⟩ (fun k s _ hk ⟨h1, h2⟩ => by
    have hk : k < T.length := by omega
    have hx := List.getElem?_eq_getElem hk
    generalize T[k] = x at hx
    unfold F_impl_areTerms_l1
    rw [getI_nat, hx]
    simp only [Option.bind_some]
    rw [chk_t (by omega), s3, s6, in_eq, in_eq]
    simp only [Option.bind_some]
    by_cases hok : (1 ≤ x.Mask ∧ x.Mask ≤ ((2 ^ n.toNat : Nat) : Int) - 1) ∧ 1 ≤ x.Coef ∧ x.Coef ≤ 7
    · rw [decide_eq_true hok.1.1, decide_eq_true hok.1.2, decide_eq_true hok.2.1, decide_eq_true hok.2.2]
      simp only [Bool.and_self, Bool.not_true, Bool.not_false, Bool.or_self, gb, cond_true, Option.bind_some, Bool.true_and, Bool.false_or]
      have here : ∀ (i : Nat) z, i < k + 1 → T[i]? = some z → (1 ≤ z.Mask ∧ z.Mask < ((2 ^ n.toNat : Nat) : Int) ∧ 1 ≤ z.Coef ∧ z.Coef ≤ 7) := fun i z hi hz => by
        by_cases hik : i = k
        · subst hik; rw [hx] at hz; cases hz; exact ⟨hok.1.1, by omega, hok.2.1, hok.2.2⟩
        · exact h1 i z (by omega) hz
      by_cases hk0 : k = 0
      · subst hk0
        rw [decide_eq_false (show ¬ (0 : Int) < ((0 : Nat) : Int) by omega)]
        simp only [cond_false, Option.bind_some, Bool.false_and]
        exact .inl ⟨(), by first | rfl | trivial, here, fun i a b hi => by omega⟩
      · rw [decide_eq_true (show (0 : Int) < (k : Int) by omega), wrap_i64 (a := (k : Int) - 1) ⟨by omega, by omega⟩]
        obtain ⟨j, rfl⟩ : ∃ j, k = j + 1 := ⟨k - 1, by omega⟩
        rw [show (((j + 1 : Nat) : Int) - 1) = ((j : Nat) : Int) by omega, getI_nat]
        have hy := List.getElem?_eq_getElem (show j < T.length by omega)
        generalize T[j] = y at hy
        rw [hy]
        simp only [cond_true, Option.bind_some, Bool.true_and]
        by_cases hlt : x.Mask ≤ y.Mask
        · rw [decide_eq_true hlt]; exact .inr ⟨false, rfl, rfl⟩
        · rw [decide_eq_false hlt]
          refine .inl ⟨(), rfl, here, fun i a b hi ha hb => ?_⟩
          by_cases hij : i = j
          · subst hij; rw [hy] at ha; rw [hx] at hb; cases ha; cases hb; omega
          · exact h2 i a b (by omega) ha hb
    · refine .inr ⟨false, ?_, rfl⟩
      have e : ((!(decide (1 ≤ x.Mask) && decide (x.Mask ≤ ((2 ^ n.toNat : Nat) : Int) - 1))) || !(decide (1 ≤ x.Coef) && decide (x.Coef ≤ 7))) = true := by
        simp only [Bool.or_eq_true, Bool.not_eq_true', Bool.and_eq_false_iff, decide_eq_false_iff_not]
        omega
      cases hA : decide (1 ≤ x.Mask) && decide (x.Mask ≤ ((2 ^ n.toNat : Nat) : Int) - 1) with
      | false => simp [gb]
      | true =>
        rw [hA] at e
        simp only [Bool.not_true, Bool.false_or, Bool.not_eq_true'] at e
        simp [gb, e]) with ⟨⟨⟩, h1, h2, h3⟩ | ⟨r, h1, rfl⟩
  · rw [h1]
    exact ⟨true, rfl, fun _ => ⟨fun i x hx => h2 i x (by have := (List.getElem?_eq_some_iff.1 hx).1; omega) hx, fun i x y hx hy => h3 i x y (by have := (List.getElem?_eq_some_iff.1 hy).1; omega) hx hy⟩⟩
  · rw [h1]; exact ⟨false, rfl, fun h => by cases h⟩
theorem terms_loop {p : TPhasePoly} (hn : 1 ≤ p.Qubits ∧ p.Qubits ≤ 5) : F_spec_l13Valid_l1 p = F_impl_areTerms_l1 p.Terms p.Qubits := by
  obtain ⟨s1, s2, s3, s4, s5, s6⟩ := shl_small hn
  funext i u
  unfold F_spec_l13Valid_l1 F_impl_areTerms_l1
  rw [spec_in, s2, s3]
  cases getI p.Terms (i : Int) with
  | none => rfl
  | some x =>
    simp only [Option.bind_some]
    rw [chk_t s1, chk_t (by omega)]
/-- Both say the same of a phase polynomial. -/
theorem poly_both {p : TPhasePoly} (h1 : p.Terms.length ≤ 9223372036854775807) (h2 : p.Out.Rows.length ≤ 9223372036854775807) :
    ∃ b, F_spec_l13Valid p = some b ∧ F_impl_IsValidPhasePoly p = some b ∧ (b = true → ∃ n l, PolyOk p n l) := by
  obtain ⟨Q, P, T, ⟨R⟩⟩ := p
  obtain ⟨b1, e1, e2, e3⟩ := lin_both h2
  unfold F_spec_l13Valid F_impl_IsValidPhasePoly
  rw [spec_in, in_eq, in_eq]
  simp only [Option.bind_some]
  by_cases hn : 1 ≤ Q ∧ Q ≤ 5
  · obtain ⟨b2, f1, f2⟩ := areTerms_both (T := T) hn h1
    rw [decide_eq_true hn.1, decide_eq_true hn.2]
    rw [terms_loop (p := TPhasePoly.mk Q P T (TLinear.mk R)) hn]
    have hspec : (chk (T.length ≤ 9223372036854775807) <| (forX (F_impl_areTerms_l1 T Q) T.length 0 ()).bind <| orR fun _ => some true) = some b2 := f1
    simp only [gb, Bool.and_self, Bool.not_true, Bool.not_false, cond_true, Option.bind_some, Bool.false_or, Bool.true_and]
    cases hP : decide (0 ≤ P) && decide (P ≤ 7) with
    | false =>
      simp only [cond_false, cond_true, Bool.not_false, Bool.not_true, Bool.true_or, Option.bind_some, Bool.false_and]
      exact ⟨false, rfl, rfl, fun h => by cases h⟩
    | true =>
      simp only [cond_true, Bool.not_true, Bool.false_or, Option.bind_some, Bool.true_and]
      rw [f1]
      simp only [Option.bind_some]
      by_cases hlen : (R.length : Int) = Q
      · have g1 : ((R.length : Int) != Q) = false := by simp [hlen]
        have g2 : ((R.length : Int) == Q) = true := by simp [hlen]
        rw [g1, g2]
        simp only [Bool.not_false, cond_true, Bool.false_or, Bool.and_true]
        rw [e1]
        simp only [Option.bind_some]
        cases b1 with
        | false =>
          simp only [Bool.not_false, cond_true]
          cases b2 with
          | false => simp only [cond_false, Option.bind_some, Bool.false_and]; exact ⟨false, rfl, rfl, fun h => by cases h⟩
          | true => simp only [cond_true]; rw [e2]; exact ⟨false, rfl, rfl, fun h => by cases h⟩
        | true =>
          simp only [Bool.not_true, cond_false]
          rw [hspec]
          cases b2 with
          | false => simp only [cond_false, Option.bind_some, Bool.false_and]; exact ⟨false, rfl, rfl, fun h => by cases h⟩
          | true =>
            simp only [cond_true]
            rw [e2]
            refine ⟨true, rfl, rfl, fun _ => ?_⟩
            obtain ⟨l, l1, l2, l3, l4, l5⟩ := e3 rfl
            obtain ⟨t1, t2⟩ := f2 rfl
            have hll : l.length = R.length := by have := congrArg List.length l1; rw [cI_len] at this; exact this.symm
            have hP' : 0 ≤ P ∧ P ≤ 7 := by simpa using hP
            refine ⟨l.length, l, ⟨l2, l3, by simp only; omega⟩, hP', ⟨congrArg TLinear.mk l1, rfl, l4, ?_, e1, e2⟩, ?_, t2⟩
            · rw [← l1, hll]; exact l5
            · rw [show l.length = Q.toNat by omega]; exact t1
      · have g1 : ((R.length : Int) != Q) = true := by simp [hlen]
        have g2 : ((R.length : Int) == Q) = false := by simp [hlen]
        rw [g1, g2]
        simp only [Bool.not_true, cond_false, cond_true, Bool.true_or, Bool.and_false, Option.bind_some, Bool.false_and]
        exact ⟨false, rfl, rfl, fun h => by cases h⟩
  · have e : (decide (1 ≤ Q) && decide (Q ≤ 5)) = false := by
      simp only [Bool.and_eq_false_iff, decide_eq_false_iff_not]; omega
    rw [e]
    simp only [gb, cond_false, cond_true, Option.bind_some, Bool.false_and, Bool.not_false, Bool.not_true, Bool.true_or]
    exact ⟨false, rfl, rfl, fun h => by cases h⟩
theorem mask_mono {T : List TTerm} (h : ∀ (i : Nat) x y, T[i]? = some x → T[i + 1]? = some y → x.Mask < y.Mask) : ∀ (d i : Nat) x y, T[i]? = some x → T[i + (d + 1)]? = some y → x.Mask < y.Mask
  | 0, i, x, y, hx, hy => h i x y hx hy
  | d + 1, i, x, y, hx, hy => by
    have hl := (List.getElem?_eq_some_iff.1 hy).1
    have hz := List.getElem?_eq_getElem (show i + (d + 1) < T.length by omega)
    have h1 := mask_mono h d i x _ hx hz
    have h2 := h (i + (d + 1)) _ y hz hy
    omega
theorem mask_ge {p : TPhasePoly} {n : Nat} {l : List Nat} (h : PolyOk p n l) : ∀ (i : Nat) x, p.Terms[i]? = some x → (i : Int) + 1 ≤ x.Mask
  | 0, x, hx => by have := (h.2.2.2.1 0 x hx).1; omega
  | i + 1, x, hx => by
    have hl := (List.getElem?_eq_some_iff.1 hx).1
    have hz := List.getElem?_eq_getElem (show i < p.Terms.length by omega)
    have h1 := mask_ge h i _ hz
    have h2 := h.2.2.2.2 i _ x hz hx
    omega
theorem terms_len {p : TPhasePoly} {n : Nat} {l : List Nat} (h : PolyOk p n l) : p.Terms.length ≤ 31 := by
  rcases Nat.lt_or_ge 31 p.Terms.length with hl | hl
  · have hz := List.getElem?_eq_getElem hl
    have h1 := mask_ge h 31 _ hz
    have h2 := (h.2.2.2.1 31 _ hz).2.1
    have h3 := pow32 h.1.2.1
    omega
  · exact hl
theorem mask_nat {p : TPhasePoly} {n : Nat} {l : List Nat} (h : PolyOk p n l) {i : Nat} {x : TTerm} (hx : p.Terms[i]? = some x) : ∃ m : Nat, x.Mask = (m : Int) ∧ 1 ≤ m ∧ m < 2 ^ n := by
  have := h.2.2.2.1 i x hx
  exact ⟨x.Mask.toNat, by omega, by omega, by omega⟩
theorem same_zero {n : Nat} (hn : n ≤ 5) : Same (2 ^ n) 0 (List.replicate (2 ^ n) 0) (List.replicate 32 0) := by
  have := pow32 hn
  refine ⟨by simp, by simp, this, fun j x hx => ?_, fun j h1 h2 => by rw [List.getElem?_replicate, if_pos h2]⟩
  have hj := (List.getElem?_eq_some_iff.1 hx).1
  rw [List.length_replicate] at hj
  rw [List.getElem?_replicate, if_pos hj] at hx
  cases hx
  refine ⟨by omega, by omega, ?_⟩
  rw [List.getElem?_replicate, if_pos (by omega)]; rfl
theorem by_both {p : TPhasePoly} {n : Nat} {l : List Nat} (h : PolyOk p n l) {g : Nat → List Int → Option (List Int)}
    (hg : ∀ (i : Nat) x S, p.Terms[i]? = some x → g i S = F_impl_coefficients_add S x.Mask x.Coef) :
    ∃ B S, F_spec_l13By p = some B ∧ forN g p.Terms.length 0 (List.replicate 32 0) = some S ∧ Same (2 ^ n) 1000 B S := by
  have hlen := terms_len h
  have h32 := pow32 h.1.2.1
  have hq : 1 ≤ p.Qubits ∧ p.Qubits ≤ 5 := by have := h.1; omega
  obtain ⟨s1, s2, s3, s4, s5, s6⟩ := shl_small hq
  have hqn : p.Qubits.toNat = n := by have := h.1; omega
  rw [hqn] at s2 s3 s4 s5 s6
  unfold F_spec_l13By
  rw [chk_t s1, s2, chk_t ⟨by omega, by omega⟩, chk_t (by omega), Int.toNat_natCast]
  obtain ⟨B, S, h1, h2, h3⟩ := forN2_inv (f := F_spec_l13By_l1 p) (g := g) (fun i B S => Same (2 ^ n) (28 * (i : Int)) B S ∧ ∀ j : Nat, (∀ t x, t < i → p.Terms[t]? = some x → x.Mask < (j : Int)) → j < 2 ^ n → B[j]? = some 0)
    p.Terms.length 0 (List.replicate (2 ^ n) 0) (List.replicate 32 0) ⟨same_zero h.1.2.1, fun j _ hj => by rw [List.getElem?_replicate, if_pos hj]⟩ (fun i B S _ hi ⟨h1, h2⟩ => by
    have hx := List.getElem?_eq_getElem (show i < p.Terms.length by omega)
    generalize p.Terms[i] = x at hx
    obtain ⟨m, hm, m1, m2⟩ := mask_nat h hx
    have hc := h.2.2.2.1 i x hx
    have hz := h2 m (fun t y ht hy => by
      rw [← hm]
      obtain ⟨d, rfl⟩ : ∃ d, i = t + (d + 1) := ⟨i - t - 1, by omega⟩
      exact mask_mono h.2.2.2.2 d t y x hy hx) m2
    have hgz : getI B x.Mask = some 0 := by rw [hm, getI_nat]; exact hz
    obtain ⟨x', e1, e2, e3, e4⟩ := h1.add (by omega) (i := x.Mask) (d := x.Coef) (by omega) (by omega) ⟨by omega, by omega⟩
    rw [hgz] at e1
    cases e1
    rw [e3] at e4
    rw [Int.zero_add] at e2 e4
    refine ⟨B.set x.Mask.toNat x.Coef, _, ?_, by rw [hg i x S hx]; exact e2, ?_, fun j hj hj2 => ?_⟩
    · unfold F_spec_l13By_l1
      rw [getI_nat, hx]
      simp only [Option.bind_some, hgz]
    · refine e4.mono ?_
      push_cast; omega
    · have hmj := hj i x (Nat.lt_succ_self i) hx
      rw [List.getElem?_set_ne (by omega)]
      exact h2 j (fun t y ht hy => hj t y (by omega) hy) hj2)
  rw [h1, h2]
  exact ⟨B, S, rfl, rfl, h3.1.mono (by push_cast; omega)⟩
theorem wrapU {a : Nat} (h : a < 18446744073709551616) : IntKind.u64.wrap (a : Int) = (a : Int) := by
  simp [IntKind.wrap, IntKind.signed, IntKind.bits]
  omega
theorem shr_u (x k : Nat) (hk : k ≤ 64) : shrK .u64 (x : Int) (k : Int) = ((x / 2 ^ k : Nat) : Int) := by
  unfold shrK
  rw [Int.toNat_natCast, Nat.min_eq_left (show k ≤ IntKind.bits .u64 from hk), Int.ofNat_fdiv]
  simp
theorem shr_i (x k : Nat) (hk : k ≤ 64) : shrK .i64 (x : Int) (k : Int) = ((x / 2 ^ k : Nat) : Int) := by
  unfold shrK
  rw [Int.toNat_natCast, Nat.min_eq_left (show k ≤ IntKind.bits .i64 from hk), Int.ofNat_fdiv]
  simp
theorem and_u {a b : Nat} (ha : a < 18446744073709551616) (hb : b < 18446744073709551616) : bits .and .u64 (a : Int) (b : Int) = ((a &&& b : Nat) : Int) := by
  have h1 : a &&& b ≤ a := Nat.and_le_left
  show IntKind.u64.wrap ((BitVec.ofInt 64 (a : Int) &&& BitVec.ofInt 64 (b : Int)).toNat : Int) = _
  have e1 : BitVec.ofInt 64 (a : Int) = BitVec.ofNat 64 a := rfl
  have e2 : BitVec.ofInt 64 (b : Int) = BitVec.ofNat 64 b := rfl
  rw [e1, e2, BitVec.toNat_and, BitVec.toNat_ofNat, BitVec.toNat_ofNat, Nat.mod_eq_of_lt (by omega), Nat.mod_eq_of_lt (by omega)]
  exact wrapU (by omega)
theorem and_i {a b : Nat} (ha : a < 9223372036854775808) (hb : b < 9223372036854775808) : bits .and .i64 (a : Int) (b : Int) = ((a &&& b : Nat) : Int) := by
  have h1 : a &&& b ≤ a := Nat.and_le_left
  show IntKind.i64.wrap ((BitVec.ofInt 64 (a : Int) &&& BitVec.ofInt 64 (b : Int)).toNat : Int) = _
  have e1 : BitVec.ofInt 64 (a : Int) = BitVec.ofNat 64 a := rfl
  have e2 : BitVec.ofInt 64 (b : Int) = BitVec.ofNat 64 b := rfl
  rw [e1, e2, BitVec.toNat_and, BitVec.toNat_ofNat, BitVec.toNat_ofNat, Nat.mod_eq_of_lt (by omega), Nat.mod_eq_of_lt (by omega)]
  exact wrap_i64 ⟨by omega, by omega⟩
theorem and_step (k : Nat) {d c : Nat} (y M : Nat) (hd : d < 2 ^ k) (hc : c < 2 ^ k) : (d + 2 ^ k * y) &&& (c + 2 ^ k * M) = (d &&& c) + 2 ^ k * (y &&& M) := by
  have hdc : d &&& c < 2 ^ k := Nat.and_lt_two_pow d hc
  apply Nat.eq_of_testBit_eq
  intro j
  rw [Nat.add_comm d, Nat.add_comm c, Nat.add_comm (d &&& c), Nat.testBit_and, Nat.testBit_two_pow_mul_add _ hd, Nat.testBit_two_pow_mul_add _ hc, Nat.testBit_two_pow_mul_add _ hdc]
  by_cases h : j < k
  · rw [if_pos h, if_pos h, if_pos h, Nat.testBit_and]
  · rw [if_neg h, if_neg h, if_neg h, Nat.testBit_and]
def val : List Nat → Nat
  | [] => 0
  | d :: t => d + 16 * val t
def mskN (c : Nat) : Nat → Nat
  | 0 => 0
  | n + 1 => c + 16 * mskN c n
def a4 (d : Nat) : Nat := (d / 2 &&& 5) + (d &&& 5)
def b4 (d : Nat) : Nat := (d / 4 &&& 3) + (d &&& 3)
def c4 (d : Nat) : Nat := b4 (a4 d)
theorem a4_lt : ∀ d : Fin 16, a4 d.val < 16 ∧ c4 d.val ≤ 4 ∧ ∀ e : Fin 2, (d.val / 2 + 8 * e.val) &&& 5 = d.val / 2 &&& 5 := by decide
theorem b4_lt : ∀ d : Fin 16, ∀ e : Fin 4, (d.val / 4 + 4 * e.val) &&& 3 = d.val / 4 &&& 3 := by decide
theorem stA : ∀ (ds : List Nat) (n : Nat), ds.length ≤ n → (∀ d ∈ ds, d < 16) → (val ds / 2 &&& mskN 5 n) + (val ds &&& mskN 5 n) = val (ds.map a4)
  | [], n, _, _ => by simp [val]
  | d :: t, 0, h, _ => absurd h (by simp)
  | d :: t, n + 1, h, hd => by
    have hd16 := hd d (List.mem_cons_self ..)
    have ih := stA t n (by simpa using h) (fun x hx => hd x (List.mem_cons_of_mem _ hx))
    have e1 : (d + 16 * val t) / 2 = (d / 2 + 8 * (val t % 2)) + 2 ^ 4 * (val t / 2) := by omega
    have e2 := (a4_lt ⟨d, hd16⟩).2.2 ⟨val t % 2, Nat.mod_lt _ (by decide)⟩
    simp only at e2
    have e3 := and_step 4 (d := d / 2 + 8 * (val t % 2)) (c := 5) (val t / 2) (mskN 5 n) (by omega) (by decide)
    have e4 := and_step 4 (d := d) (c := 5) (val t) (mskN 5 n) (by omega) (by decide)
    show ((d + 16 * val t) / 2 &&& (5 + 16 * mskN 5 n)) + ((d + 16 * val t) &&& (5 + 16 * mskN 5 n)) = a4 d + 16 * val (t.map a4)
    rw [e1, show (5 + 16 * mskN 5 n) = 5 + 2 ^ 4 * mskN 5 n from rfl, e3, show d + 16 * val t = d + 2 ^ 4 * val t from rfl, e4, e2, ← ih]
    unfold a4
    omega
theorem stB : ∀ (ds : List Nat) (n : Nat), ds.length ≤ n → (∀ d ∈ ds, d < 16) → (val ds / 4 &&& mskN 3 n) + (val ds &&& mskN 3 n) = val (ds.map b4)
  | [], n, _, _ => by simp [val]
  | d :: t, 0, h, _ => absurd h (by simp)
  | d :: t, n + 1, h, hd => by
    have hd16 := hd d (List.mem_cons_self ..)
    have ih := stB t n (by simpa using h) (fun x hx => hd x (List.mem_cons_of_mem _ hx))
    have e1 : (d + 16 * val t) / 4 = (d / 4 + 4 * (val t % 4)) + 2 ^ 4 * (val t / 4) := by omega
    have e2 := b4_lt ⟨d, hd16⟩ ⟨val t % 4, Nat.mod_lt _ (by decide)⟩
    simp only at e2
    have e3 := and_step 4 (d := d / 4 + 4 * (val t % 4)) (c := 3) (val t / 4) (mskN 3 n) (by omega) (by decide)
    have e4 := and_step 4 (d := d) (c := 3) (val t) (mskN 3 n) (by omega) (by decide)
    show ((d + 16 * val t) / 4 &&& (3 + 16 * mskN 3 n)) + ((d + 16 * val t) &&& (3 + 16 * mskN 3 n)) = b4 d + 16 * val (t.map b4)
    rw [e1, show (3 + 16 * mskN 3 n) = 3 + 2 ^ 4 * mskN 3 n from rfl, e3, show d + 16 * val t = d + 2 ^ 4 * val t from rfl, e4, e2, ← ih]
    unfold b4
    omega
theorem byte15 {p q : Nat} (h : p < 16) : (p + 16 * q) &&& 15 = p := by
  rw [show (15 : Nat) = 2 ^ 4 - 1 from rfl, Nat.and_two_pow_sub_one_eq_mod]
  omega
def pA (x : Int) : Int := IntKind.u64.wrap (bits .and .u64 (shrK .u64 x 1) 6148914691236517205 + bits .and .u64 x 6148914691236517205)
def pB (x : Int) : Int := IntKind.u64.wrap (bits .and .u64 (shrK .u64 x 2) 3689348814741910323 + bits .and .u64 x 3689348814741910323)
def pC (x : Int) : Int := bits .and .u64 (IntKind.u64.wrap (shrK .u64 x 4 + x)) 1085102592571150095
def pD (x : Int) : Int := IntKind.u64.wrap (x + shrK .u64 x 8)
def pE (x : Int) : Int := IntKind.u64.wrap (x + shrK .u64 x 16)
def pF (x : Int) : Int := IntKind.u64.wrap (x + shrK .u64 x 32)
def pG (x : Int) : Int := bits .and .i64 (IntKind.i64.wrap x) 127
theorem ones_staged (x : Int) : F_math_bits_OnesCount64 x = some (pG (pF (pE (pD (pC (pB (pA x))))))) := rfl
theorem val_lt {d0 d1 d2 d3 d4 d5 d6 d7 : Nat} (h0 : d0 < 16) (h1 : d1 < 16) (h2 : d2 < 16) (h3 : d3 < 16) (h4 : d4 < 16) (h5 : d5 < 16) (h6 : d6 < 16) (h7 : d7 < 16) : val [d0, d1, d2, d3, d4, d5, d6, d7] < 4294967296 := by
  simp only [val]; omega
theorem pA_eq {x A : Nat} (hx : x < 4294967296) (hA : A < 4294967296) (h : (x / 2 &&& 6148914691236517205) + (x &&& 6148914691236517205) = A) : pA (x : Int) = (A : Int) := by
  unfold pA
  have h2 : x / 2 < 18446744073709551616 := by omega
  have h1 : x < 18446744073709551616 := by omega
  rw [show (1 : Int) = ((1 : Nat) : Int) from rfl, shr_u x 1 (by decide), show (6148914691236517205 : Int) = ((6148914691236517205 : Nat) : Int) from rfl, show x / 2 ^ 1 = x / 2 from rfl, and_u h2 (by decide), and_u h1 (by decide), ← Int.natCast_add, h]
  exact wrapU (by omega)
theorem pB_eq {x A : Nat} (hx : x < 4294967296) (hA : A < 4294967296) (h : (x / 4 &&& 3689348814741910323) + (x &&& 3689348814741910323) = A) : pB (x : Int) = (A : Int) := by
  unfold pB
  have h2 : x / 4 < 18446744073709551616 := by omega
  have h1 : x < 18446744073709551616 := by omega
  rw [show (2 : Int) = ((2 : Nat) : Int) from rfl, shr_u x 2 (by decide), show (3689348814741910323 : Int) = ((3689348814741910323 : Nat) : Int) from rfl, show x / 2 ^ 2 = x / 4 from rfl, and_u h2 (by decide), and_u h1 (by decide), ← Int.natCast_add, h]
  exact wrapU (by omega)
theorem hC_eq {p0 p1 p2 p3 p4 p5 p6 p7 B : Nat} (n0 : p0 ≤ 4) (n1 : p1 ≤ 4) (n2 : p2 ≤ 4) (n3 : p3 ≤ 4) (n4 : p4 ≤ 4) (n5 : p5 ≤ 4) (n6 : p6 ≤ 4) (n7 : p7 ≤ 4) (hB : B = p0 + 16 * (p1 + 16 * (p2 + 16 * (p3 + 16 * (p4 + 16 * (p5 + 16 * (p6 + 16 * p7))))))) :
    (B / 16 + B) &&& 1085102592571150095 = (p0 + p1) + 256 * ((p2 + p3) + 256 * ((p4 + p5) + 256 * (p6 + p7))) := by
  have e : B / 16 + B = ((p0 + p1) + 16 * (p1 + p2)) + 2 ^ 8 * (((p2 + p3) + 16 * (p3 + p4)) + 2 ^ 8 * (((p4 + p5) + 16 * (p5 + p6)) + 2 ^ 8 * (((p6 + p7) + 16 * p7) + 2 ^ 8 * 0))) := by
    have : B / 16 = p1 + 16 * (p2 + 16 * (p3 + 16 * (p4 + 16 * (p5 + 16 * (p6 + 16 * p7))))) := by omega
    rw [this, hB]; clear this hB; omega
  have a0 : p0 + p1 + 16 * (p1 + p2) < 2 ^ 8 := by clear e hB; omega
  have a1 : p2 + p3 + 16 * (p3 + p4) < 2 ^ 8 := by clear e hB; omega
  have a2 : p4 + p5 + 16 * (p5 + p6) < 2 ^ 8 := by clear e hB; omega
  have a3 : p6 + p7 + 16 * p7 < 2 ^ 8 := by clear e hB; omega
  have b0 : p0 + p1 < 16 := by clear e hB; omega
  have b1 : p2 + p3 < 16 := by clear e hB; omega
  have b2 : p4 + p5 < 16 := by clear e hB; omega
  have b3 : p6 + p7 < 16 := by clear e hB; omega
  rw [e, show (1085102592571150095 : Nat) = 15 + 2 ^ 8 * (15 + 2 ^ 8 * (15 + 2 ^ 8 * (15 + 2 ^ 8 * 252645135))) from rfl, and_step 8 _ _ a0 (by decide), and_step 8 _ _ a1 (by decide), and_step 8 _ _ a2 (by decide), and_step 8 _ _ a3 (by decide),
    byte15 b0, byte15 b1, byte15 b2, byte15 b3, Nat.zero_and, Nat.mul_zero, Nat.add_zero]
theorem pC_eq {B C : Nat} (hB : B < 4294967296) (h : (B / 16 + B) &&& 1085102592571150095 = C) : pC (B : Int) = (C : Int) := by
  unfold pC
  have h1 : B / 16 + B < 18446744073709551616 := by omega
  rw [show (4 : Int) = ((4 : Nat) : Int) from rfl, shr_u B 4 (by decide), ← Int.natCast_add, show B / 2 ^ 4 = B / 16 from rfl, wrapU h1, show (1085102592571150095 : Int) = ((1085102592571150095 : Nat) : Int) from rfl, and_u h1 (by decide), h]
theorem pD_eq {C : Nat} (h : C < 4294967296) : pD (C : Int) = ((C + C / 256 : Nat) : Int) := by
  unfold pD
  rw [show (8 : Int) = ((8 : Nat) : Int) from rfl, shr_u C 8 (by decide), ← Int.natCast_add, show C / 2 ^ 8 = C / 256 from rfl, wrapU (by omega)]
theorem pE_eq {C : Nat} (h : C < 8589934592) : pE (C : Int) = ((C + C / 65536 : Nat) : Int) := by
  unfold pE
  rw [show (16 : Int) = ((16 : Nat) : Int) from rfl, shr_u C 16 (by decide), ← Int.natCast_add, show C / 2 ^ 16 = C / 65536 from rfl, wrapU (by omega)]
theorem pF_eq {C : Nat} (h : C < 17179869184) : pF (C : Int) = ((C + C / 4294967296 : Nat) : Int) := by
  unfold pF
  rw [show (32 : Int) = ((32 : Nat) : Int) from rfl, shr_u C 32 (by decide), ← Int.natCast_add, show C / 2 ^ 32 = C / 4294967296 from rfl, wrapU (by omega)]
theorem pG_eq {C : Nat} (h : C < 34359738368) : pG (C : Int) = ((C % 128 : Nat) : Int) := by
  unfold pG
  rw [wrap_i64 ⟨by omega, by omega⟩, show (127 : Int) = ((127 : Nat) : Int) from rfl, and_i (by omega) (by decide), show (127 : Nat) = 2 ^ 7 - 1 from rfl, Nat.and_two_pow_sub_one_eq_mod]
theorem sum_eq {q0 q1 q2 q3 : Nat} (h0 : q0 ≤ 8) (h1 : q1 ≤ 8) (h2 : q2 ≤ 8) (h3 : q3 ≤ 8) {C D E F : Nat} (hC : C = q0 + 256 * (q1 + 256 * (q2 + 256 * q3))) (hD : D = C + C / 256) (hE : E = D + D / 65536) (hF : F = E + E / 4294967296) :
    F % 128 = q0 + q1 + q2 + q3 ∧ C < 4294967296 ∧ D < 8589934592 ∧ E < 17179869184 ∧ F < 34359738368 := by
  have c1 : C / 256 = q1 + 256 * (q2 + 256 * q3) := by omega
  have d1 : D = (q0 + q1) + 256 * ((q1 + q2) + 256 * ((q2 + q3) + 256 * q3)) := by rw [hD, c1, hC]; omega
  clear hD c1
  have d2 : D / 65536 = (q2 + q3) + 256 * q3 := by rw [d1]; omega
  have e1 : E = (q0 + q1 + q2 + q3) + 256 * ((q1 + q2 + q3) + 256 * ((q2 + q3) + 256 * q3)) := by rw [hE, d2, d1]; omega
  clear hE d2
  have e2 : E / 4294967296 = 0 := by rw [e1]; omega
  have f1 : F = E := by rw [hF, e2]; omega
  clear hF e2
  refine ⟨?_, by omega, by omega, by omega, by omega⟩
  rw [f1, e1]; clear f1 e1 d1 hC; omega
/-- The sum of the bits in the eight parts of four. -/
theorem ones_val {d0 d1 d2 d3 d4 d5 d6 d7 : Nat} (h0 : d0 < 16) (h1 : d1 < 16) (h2 : d2 < 16) (h3 : d3 < 16) (h4 : d4 < 16) (h5 : d5 < 16) (h6 : d6 < 16) (h7 : d7 < 16) :
    F_math_bits_OnesCount64 ((val [d0, d1, d2, d3, d4, d5, d6, d7] : Nat) : Int) = some ((c4 d0 + c4 d1 + c4 d2 + c4 d3 + c4 d4 + c4 d5 + c4 d6 + c4 d7 : Nat) : Int) := by
  have hall : ∀ d ∈ [d0, d1, d2, d3, d4, d5, d6, d7], d < 16 := by
    intro d hd
    simp only [List.mem_cons, List.not_mem_nil, or_false] at hd
    rcases hd with rfl | rfl | rfl | rfl | rfl | rfl | rfl | rfl <;> assumption
  have hA := stA [d0, d1, d2, d3, d4, d5, d6, d7] 16 (by simp) hall
  have hallA : ∀ d ∈ [d0, d1, d2, d3, d4, d5, d6, d7].map a4, d < 16 := by
    intro d hd
    obtain ⟨e, he, rfl⟩ := List.mem_map.1 hd
    exact (a4_lt ⟨e, hall e he⟩).1
  have hB := stB ([d0, d1, d2, d3, d4, d5, d6, d7].map a4) 16 (by simp) hallA
  have hx := val_lt h0 h1 h2 h3 h4 h5 h6 h7
  have hAlt : val ([d0, d1, d2, d3, d4, d5, d6, d7].map a4) < 4294967296 := val_lt (a4_lt ⟨d0, h0⟩).1 (a4_lt ⟨d1, h1⟩).1 (a4_lt ⟨d2, h2⟩).1 (a4_lt ⟨d3, h3⟩).1 (a4_lt ⟨d4, h4⟩).1 (a4_lt ⟨d5, h5⟩).1 (a4_lt ⟨d6, h6⟩).1 (a4_lt ⟨d7, h7⟩).1
  have m5 : mskN 5 16 = 6148914691236517205 := by decide
  have m3 : mskN 3 16 = 3689348814741910323 := by decide
  rw [m5] at hA
  rw [m3] at hB
  have n0 : c4 d0 ≤ 4 := (a4_lt ⟨d0, h0⟩).2.1
  have n1 : c4 d1 ≤ 4 := (a4_lt ⟨d1, h1⟩).2.1
  have n2 : c4 d2 ≤ 4 := (a4_lt ⟨d2, h2⟩).2.1
  have n3 : c4 d3 ≤ 4 := (a4_lt ⟨d3, h3⟩).2.1
  have n4 : c4 d4 ≤ 4 := (a4_lt ⟨d4, h4⟩).2.1
  have n5 : c4 d5 ≤ 4 := (a4_lt ⟨d5, h5⟩).2.1
  have n6 : c4 d6 ≤ 4 := (a4_lt ⟨d6, h6⟩).2.1
  have n7 : c4 d7 ≤ 4 := (a4_lt ⟨d7, h7⟩).2.1
  have hBv : val (([d0, d1, d2, d3, d4, d5, d6, d7].map a4).map b4) = c4 d0 + 16 * (c4 d1 + 16 * (c4 d2 + 16 * (c4 d3 + 16 * (c4 d4 + 16 * (c4 d5 + 16 * (c4 d6 + 16 * c4 d7)))))) := by
    show c4 d0 + 16 * (c4 d1 + 16 * (c4 d2 + 16 * (c4 d3 + 16 * (c4 d4 + 16 * (c4 d5 + 16 * (c4 d6 + 16 * (c4 d7 + 16 * 0))))))) = _
    rw [Nat.mul_zero, Nat.add_zero]
  have hBlt := val_lt (Nat.lt_of_le_of_lt n0 (by decide)) (Nat.lt_of_le_of_lt n1 (by decide)) (Nat.lt_of_le_of_lt n2 (by decide)) (Nat.lt_of_le_of_lt n3 (by decide)) (Nat.lt_of_le_of_lt n4 (by decide)) (Nat.lt_of_le_of_lt n5 (by decide)) (Nat.lt_of_le_of_lt n6 (by decide)) (Nat.lt_of_le_of_lt n7 (by decide))
  have hBe : val [c4 d0, c4 d1, c4 d2, c4 d3, c4 d4, c4 d5, c4 d6, c4 d7] = val (([d0, d1, d2, d3, d4, d5, d6, d7].map a4).map b4) := rfl
  rw [hBe] at hBlt
  rw [ones_staged, pA_eq hx hAlt hA, pB_eq hAlt hBlt hB, pC_eq hBlt (hC_eq n0 n1 n2 n3 n4 n5 n6 n7 hBv)]
  have e8 : ∀ {a b : Nat}, a ≤ 4 → b ≤ 4 → a + b ≤ 8 := fun h h' => Nat.add_le_add h h'
  obtain ⟨s1, s2, s3, s4, s5⟩ := sum_eq (e8 n0 n1) (e8 n2 n3) (e8 n4 n5) (e8 n6 n7) rfl rfl rfl rfl
  rw [pD_eq s2, pE_eq s3, pF_eq s4, pG_eq s5, s1]
  simp only [Nat.add_assoc]
def setW (x : Nat) (n : Nat) : List Nat := (List.range n).filter fun k => x.testBit k
theorem c4_eq : ∀ d : Fin 16, (setW d.val 4).length = c4 d.val := by decide
theorem setW_split (x n : Nat) : (setW x (n + 4)).length = c4 (x % 16) + (setW (x / 16) n).length := by
  rw [← c4_eq ⟨x % 16, Nat.mod_lt _ (by decide)⟩]
  unfold setW
  rw [show n + 4 = n + 1 + 1 + 1 + 1 from rfl, List.range_succ_eq_map, List.range_succ_eq_map, List.range_succ_eq_map, List.range_succ_eq_map]
  simp only [List.map_cons, List.map_map]
  have hlow : ∀ k : Nat, k < 4 → x.testBit k = (x % 16).testBit k := fun k hk => by
    rw [show (16 : Nat) = 2 ^ 4 from rfl, Nat.testBit_mod_two_pow]
    simp [hk]
  have hhigh : ((List.range n).map (Nat.succ ∘ Nat.succ ∘ Nat.succ ∘ Nat.succ)).filter (fun k => x.testBit k) = ((List.range n).filter fun k => (x / 16).testBit k).map (Nat.succ ∘ Nat.succ ∘ Nat.succ ∘ Nat.succ) := by
    rw [List.filter_map]
    congr 1
    apply List.filter_congr
    intro k _
    show x.testBit (k + 4) = (x / 16).testBit k
    rw [Nat.testBit_add]
  have hr4 : List.range 4 = [0, 1, 2, 3] := by decide
  rw [hr4]
  simp only [List.filter_cons]
  rw [show Nat.succ 0 = 1 from rfl, show Nat.succ 1 = 2 from rfl, show Nat.succ 2 = 3 from rfl]
  rw [hlow 0 (by decide), hlow 1 (by decide), hlow 2 (by decide), hlow 3 (by decide)]
  have hhigh' := congrArg List.length hhigh
  rw [List.length_map] at hhigh'
  cases (x % 16).testBit 0 <;> cases (x % 16).testBit 1 <;> cases (x % 16).testBit 2 <;> cases (x % 16).testBit 3 <;> simp [hhigh'] <;> omega
theorem ones_eq {x : Nat} (hx : x < 4294967296) : F_math_bits_OnesCount64 (x : Int) = some (((setW x 32).length : Nat) : Int) := by
  have hv : x = val [x % 16, x / 16 % 16, x / 16 / 16 % 16, x / 16 / 16 / 16 % 16, x / 16 / 16 / 16 / 16 % 16, x / 16 / 16 / 16 / 16 / 16 % 16, x / 16 / 16 / 16 / 16 / 16 / 16 % 16, x / 16 / 16 / 16 / 16 / 16 / 16 / 16 % 16] := by
    simp only [val]; omega
  have hm : ∀ y : Nat, y % 16 < 16 := fun y => Nat.mod_lt _ (by decide)
  have h := ones_val (hm x) (hm (x / 16)) (hm (x / 16 / 16)) (hm (x / 16 / 16 / 16)) (hm (x / 16 / 16 / 16 / 16)) (hm (x / 16 / 16 / 16 / 16 / 16)) (hm (x / 16 / 16 / 16 / 16 / 16 / 16)) (hm (x / 16 / 16 / 16 / 16 / 16 / 16 / 16))
  rw [← hv] at h
  rw [h, setW_split x 28, setW_split _ 24, setW_split _ 20, setW_split _ 16, setW_split _ 12, setW_split _ 8, setW_split _ 4, setW_split _ 0]
  rw [show (setW (x / 16 / 16 / 16 / 16 / 16 / 16 / 16 / 16) 0).length = 0 from rfl]
  congr 2
  omega
theorem bitsIn_eq {x : Nat} (hx : x < 4294967296) : F_impl_bitsIn (x : Int) = some (((setW x 32).length : Nat) : Int) := by
  unfold F_impl_bitsIn F_math_bits_OnesCount
  rw [wrapU (by omega), ones_eq hx]
  rfl
/-- The specification's list of the bits. -/
theorem set_stop {x k : Nat} (h : x < 2 ^ k) : ∀ d, setW x (k + d) = setW x k
  | 0 => rfl
  | d + 1 => by
    rw [← set_stop h d, ← Nat.add_assoc]
    unfold setW
    rw [List.range_succ, List.filter_append]
    have : x.testBit (k + d) = false := Nat.testBit_lt_two_pow (Nat.lt_of_lt_of_le h (Nat.pow_le_pow_right (by decide) (by omega)))
    simp [this]
theorem set_wh {x : Nat} (hx : x < 4294967296) : ∀ (q m k : Nat), k + m = 32 → m < q → ∃ k', whX (F_spec_l1Set_l1 (x : Int)) q (cI (setW x k), (k : Int)) = some (.inl (cI (setW x 32), k'))
  | 0, _, _, _, h => absurd h (Nat.not_lt_zero _)
  | q + 1, m, k, hm, hq => by
    have hk : IntKind.u64.wrap (k : Int) = (k : Int) := wru' (by omega)
    have hlen : (setW x k).length ≤ k := Nat.le_trans (List.length_filter_le _ _) (by simp)
    by_cases h0 : 0 < x / 2 ^ k
    · have hk32 : k < 32 := by
        rcases Nat.lt_or_ge k 32 with h | h
        · exact h
        · have : k = 32 := by omega
          subst this
          omega
      obtain ⟨m', rfl⟩ : ∃ m', m = m' + 1 := ⟨m - 1, by omega⟩
      obtain ⟨k', ih⟩ := set_wh hx q m' (k + 1) (by omega) (by omega)
      refine ⟨k', ?_⟩
      rw [← ih]
      simp only [whX]
      have : F_spec_l1Set_l1 (x : Int) (cI (setW x k), (k : Int)) = some (.nx (cI (setW x (k + 1)), ((k + 1 : Nat) : Int))) := by
        unfold F_spec_l1Set_l1
        simp only
        rw [hk, chk_t (by omega), shr_i x k (by omega), decide_eq_true (show (0 : Int) < ((x / 2 ^ k : Nat) : Int) by omega)]
        simp only [cond_true]
        have hd : x / 2 ^ k < 9223372036854775808 := Nat.lt_of_le_of_lt (Nat.div_le_self _ _) (by omega)
        rw [chk_t (by omega), show (1 : Int) = ((1 : Nat) : Int) from rfl, and_i hd (by decide), Nat.and_one_is_mod, wrap_i64 (a := (k : Int) + ((1 : Nat) : Int)) ⟨by omega, by omega⟩]
        have hbit : (((x / 2 ^ k % 2 : Nat) : Int) == ((1 : Nat) : Int)) = x.testBit k := by
          rw [Nat.testBit_eq_decide_div_mod_eq]
          rw [Bool.eq_iff_iff]
          simp only [beq_iff_eq, decide_eq_true_eq]
          omega
        rw [hbit]
        have hsucc : setW x (k + 1) = setW x k ++ (if x.testBit k then [k] else []) := by
          unfold setW
          rw [List.range_succ, List.filter_append]
          cases hb : x.testBit k <;> simp [hb]
        rw [hsucc]
        cases hb : x.testBit k with
        | false => simp [cI]
        | true =>
          simp only [cond_true]
          rw [chk_t (by rw [cI_len]; omega)]
          simp [cI]
      rw [this]
      rfl
    · refine ⟨(k : Int), ?_⟩
      have hlt : x < 2 ^ k := by
        rcases Nat.lt_or_ge x (2 ^ k) with h | h
        · exact h
        · exact absurd (Nat.div_pos h (Nat.two_pow_pos k)) h0
      have hs := set_stop hlt m
      rw [hm] at hs
      simp only [whX]
      have : F_spec_l1Set_l1 (x : Int) (cI (setW x k), (k : Int)) = some (.br (cI (setW x k), (k : Int))) := by
        unfold F_spec_l1Set_l1
        simp only
        rw [hk, chk_t (by omega), shr_i x k (by omega), decide_eq_false (show ¬ (0 : Int) < ((x / 2 ^ k : Nat) : Int) by omega)]
        rfl
      rw [this, hs]
      rfl
theorem setW_eq {x : Nat} (hx : x < 4294967296) : F_spec_l1Set (x : Int) = some (cI (setW x 32)) := by
  unfold F_spec_l1Set
  obtain ⟨k', h⟩ := set_wh hx fuel 32 0 (by omega) (fuelB (by omega))
  rw [show (([] : List Int), (0 : Int)) = (cI (setW x 0), ((0 : Nat) : Int)) from rfl, h]
  rfl
def codeL : Nat → List Int
  | 4 => [0, 32767]
  | 5 => [0, 32767, 8355967, 8388480, 126322567, 126351480, 133695480, 133724167, 429496729, 429516390, 434510310, 434529817, 505290270, 505307617, 509714017, 509731230, 715827882, 715838805, 718613205, 718624042, 757935405, 757945042, 760393042, 760402605, 858993459, 859000012, 860664652, 860671155, 884257972, 884263755, 885732555, 885738292, 1261745355, 1261751092, 1263219892, 1263225675, 1286812492, 1286818995, 1288483635, 1288490188, 1387081042, 1387090605, 1389538605, 1389548242, 1428859605, 1428870442, 1431644842, 1431655765, 1637752417, 1637769630, 1642176030, 1642193377, 1712953830, 1712973337, 1717967257, 1717986918, 2013759480, 2013788167, 2021132167, 2021161080, 2139095167, 2139127680, 2147450880, 2147483647]
  | _ => [0]
theorem codes_spec : ∀ n : Fin 6, 1 ≤ n.val → F_spec_l15Codes (n.val : Int) = some (codeL n.val) := by decide +kernel
theorem codes_impl : ∀ n : Fin 6, 1 ≤ n.val → F_impl_codeWords (n.val : Int) = some (codeL n.val) := by decide +kernel
theorem codes_range : ∀ n : Fin 6, 1 ≤ n.val → ((codeL n.val).all fun x => decide (0 ≤ x) && decide (x < ((2 ^ (2 ^ n.val - 1) : Nat) : Int))) = true ∧ (codeL n.val).length ≤ 64 ∧ (codeL n.val)[0]? = some 0 := by decide +kernel
theorem isWord_at : ∀ n : Fin 6, 1 ≤ n.val → ∀ w : Int, F_impl_isWord (n.val : Int) w = some (decide (0 ≤ w) && decide (w ≤ ((2 ^ (2 ^ n.val - 1) : Nat) : Int) - 1)) := by
  intro n hn w
  obtain ⟨n, h6⟩ := n
  simp only at hn ⊢
  have : n = 1 ∨ n = 2 ∨ n = 3 ∨ n = 4 ∨ n = 5 := by omega
  rcases this with rfl | rfl | rfl | rfl | rfl <;> rfl
theorem has_eq {l : List Int} (hl : l.length ≤ 9223372036854775807) (w : Int) : F_spec_l1Has l w = some (l.any fun x => x == w) := by
  unfold F_spec_l1Has
  rw [chk_t hl]
  rcases forX_any (f := F_spec_l1Has_l1 l w) (l := l) (p := fun x => x == w) (q := fun _ => true) (fun i x hx => by
    unfold F_spec_l1Has_l1
    simp only [getI_nat, hx, Option.bind_some, bsV]) with ⟨h1, h2⟩ | ⟨h1, i, _, h2⟩
  · rw [h2, h1]; rfl
  · rw [h2, h1]; rfl
theorem contains_eqV {l : List Int} (hl : l.length ≤ 9223372036854775807) (w : Int) : F_slices_Contains_int_int l w = some (l.any fun x => x == w) := by
  unfold F_slices_Contains_int_int F_slices_Index_int_int
  rw [chk_t hl]
  rcases forX_any (f := F_slices_Index_int_int_l1 l w) (l := l) (p := fun x => x == w) (q := fun i => (i : Int)) (fun i x hx => by
    unfold F_slices_Index_int_int_l1
    have e : (w == x) = (x == w) := by rw [Bool.eq_iff_iff]; simp only [beq_iff_eq]; exact eq_comm
    simp only [getI_nat, hx, Option.bind_some, e, bsV]) with ⟨h1, h2⟩ | ⟨h1, i, _, h2⟩
  · rw [h2, h1]; rfl
  · rw [h2, h1]; simp [orR]
theorem code_len {n : Nat} (h : 1 ≤ n ∧ n ≤ 5) : (codeL n).length ≤ 64 := (codes_range ⟨n, by omega⟩ h.1).2.1
theorem code_nat {n : Nat} (h : 1 ≤ n ∧ n ≤ 5) {x : Int} (hx : x ∈ codeL n) : ∃ w : Nat, x = (w : Int) ∧ w < 2 ^ (2 ^ n - 1) := by
  have := List.all_eq_true.1 (codes_range ⟨n, by omega⟩ h.1).1 x hx
  simp only [Bool.and_eq_true, decide_eq_true_eq] at this
  exact ⟨x.toNat, by omega, by omega⟩
theorem code_pow {n : Nat} (h : n ≤ 5) : 2 ^ (2 ^ n - 1) ≤ 2147483648 := by
  have h1 : 2 ^ n ≤ 2 ^ 5 := Nat.pow_le_pow_right (by decide) h
  have h2 : 2 ^ (2 ^ n - 1) ≤ 2 ^ 31 := Nat.pow_le_pow_right (by decide) (by omega)
  exact h2
theorem isCode_impl {n : Nat} (h : 1 ≤ n ∧ n ≤ 5) (w : Int) : ∃ a b, F_impl_IsCodeWord (n : Int) w = some (a, b) ∧ (a && b) = (codeL n).any (fun x => x == w) := by
  unfold F_impl_IsCodeWord
  rw [isWord_at ⟨n, by omega⟩ h.1 w]
  simp only [Option.bind_some]
  cases hr : decide (0 ≤ w) && decide (w ≤ ((2 ^ (2 ^ n - 1) : Nat) : Int) - 1) with
  | false =>
    refine ⟨false, false, rfl, ?_⟩
    symm
    rw [Bool.and_self, List.any_eq_false]
    intro x hx he
    obtain ⟨v, rfl, hv⟩ := code_nat h hx
    rw [beq_iff_eq] at he
    subst he
    rw [Bool.and_eq_false_iff, decide_eq_false_iff_not, decide_eq_false_iff_not] at hr
    omega
  | true =>
    have hc := codes_impl ⟨n, by omega⟩ h.1
    simp only at hc
    have hl := code_len h
    simp only [Bool.not_true, cond_false, hc, Option.bind_some, contains_eqV (l := codeL n) (by omega) w]
    exact ⟨_, true, rfl, by rw [Bool.and_true]⟩
def goL {α σ : Type} (g : α → σ → Option σ) : List α → σ → Option σ
  | [], s => some s
  | x :: l, s => (g x s).bind (goL g l)
theorem forN_goL {α σ : Type} {f : Nat → σ → Option σ} {g : α → σ → Option σ} : ∀ (l2 : List α) (i : Nat) (s : σ), (∀ (j : Nat) x s, l2[j]? = some x → f (i + j) s = g x s) → forN f l2.length i s = goL g l2 s
  | [], i, s, _ => rfl
  | x :: l, i, s, h => by
    show (f i s).bind _ = (g x s).bind _
    rw [show f i s = g x s from h 0 x s rfl]
    congr 1
    funext s'
    exact forN_goL l (i + 1) s' (fun j y s hy => by rw [show i + 1 + j = i + (j + 1) by omega]; exact h (j + 1) y s (by simpa using hy))
def shG (x : Int) (b : List Int) : Option (List Int) := (getI b (IntKind.i64.wrap (x + 1))).bind fun x1 => some (b.set (IntKind.i64.wrap (x + 1)).toNat (IntKind.i64.wrap (x1 - 1)))
theorem shr_bit {w m : Nat} (hw : w < 9223372036854775808) (hm : m ≤ 64) : (bits .and .i64 (shrK .i64 (w : Int) (m : Int)) 1 == 1) = w.testBit m := by
  have hd : w / 2 ^ m < 9223372036854775808 := Nat.lt_of_le_of_lt (Nat.div_le_self _ _) hw
  rw [shr_i w m hm, show (1 : Int) = ((1 : Nat) : Int) from rfl, and_i hd (by decide), Nat.and_one_is_mod, Nat.testBit_eq_decide_div_mod_eq, Bool.eq_iff_iff]
  simp only [beq_iff_eq, decide_eq_true_eq]
  omega
theorem shift_loop {p : TPhasePoly} {n w : Nat} (hp : p.Qubits = (n : Int)) (hn : 1 ≤ n ∧ n ≤ 5) (hw : w < 2147483648) : ∀ (k m : Nat) (B S : List Int) (q : Nat), m + k = 2 ^ n - 1 → Same (2 ^ n) (1000 + 28 * (m : Int)) B S → k < q →
    ∃ B' S' mk, goL shG (cI ((List.range' m k).filter fun j => w.testBit j)) B = some B' ∧ whX (F_impl_ShiftBy_l2 p (w : Int)) q (S, ((m + 1 : Nat) : Int)) = some (.inl (S', mk)) ∧ Same (2 ^ n) 2000 B' S'
  | k, m, B, S, 0, _, _, hq => absurd hq (Nat.not_lt_zero _)
  | 0, m, B, S, q + 1, hm, hS, hq => by
    have h32 := pow32 hn.2
    obtain ⟨s1, s2, s3, s4, s5, s6⟩ := shl_small (n := (n : Int)) (by omega)
    rw [Int.toNat_natCast] at s2 s3 s4 s5 s6
    refine ⟨B, S, ((m + 1 : Nat) : Int), rfl, ?_, hS.mono (by omega)⟩
    simp only [whX]
    have : F_impl_ShiftBy_l2 p (w : Int) (S, ((m + 1 : Nat) : Int)) = some (.br (S, ((m + 1 : Nat) : Int))) := by
      unfold F_impl_ShiftBy_l2
      simp only
      rw [hp, chk_t (by omega), s3, decide_eq_false (show ¬ ((m + 1 : Nat) : Int) < ((2 ^ n : Nat) : Int) by omega)]
      rfl
    rw [this]; rfl
  | k + 1, m, B, S, q + 1, hm, hS, hq => by
    have h32 := pow32 hn.2
    obtain ⟨s1, s2, s3, s4, s5, s6⟩ := shl_small (n := (n : Int)) (by omega)
    rw [Int.toNat_natCast] at s2 s3 s4 s5 s6
    have hrange : List.range' m (k + 1) = m :: List.range' (m + 1) k := List.range'_succ
    have hw1 : IntKind.i64.wrap (((m + 1 : Nat) : Int) - 1) = (m : Int) := by rw [wrap_i64 ⟨by omega, by omega⟩]; omega
    have hw2 : IntKind.i64.wrap (((m + 1 : Nat) : Int) + 1) = ((m + 1 + 1 : Nat) : Int) := by rw [wrap_i64 ⟨by omega, by omega⟩]; omega
    have hw3 : IntKind.i64.wrap ((m : Int) + 1) = ((m + 1 : Nat) : Int) := by rw [wrap_i64 ⟨by omega, by omega⟩]; omega
    obtain ⟨x, e1, e2, e3, e4⟩ := hS.add (i := ((m + 1 : Nat) : Int)) (d := -1) (by omega) (by omega) (by omega) (by omega)
    cases hb : w.testBit m with
    | false =>
      obtain ⟨B', S', mk, f1, f2, f3⟩ := shift_loop hp hn hw k (m + 1) B S q (by omega) (hS.mono (by omega)) (by omega)
      refine ⟨B', S', mk, by rw [hrange, List.filter_cons, hb]; exact f1, ?_, f3⟩
      rw [← f2]
      simp only [whX]
      have : F_impl_ShiftBy_l2 p (w : Int) (S, ((m + 1 : Nat) : Int)) = some (.nx (S, ((m + 1 + 1 : Nat) : Int))) := by
        unfold F_impl_ShiftBy_l2
        simp only
        rw [hp, chk_t (by omega), s3, decide_eq_true (show ((m + 1 : Nat) : Int) < ((2 ^ n : Nat) : Int) by omega), hw1]
        simp only [cond_true]
        rw [chk_t (by omega), shr_bit (by omega) (by omega), hb, hw2]
        rfl
      rw [this]; rfl
    | true =>
      obtain ⟨B', S', mk, f1, f2, f3⟩ := shift_loop hp hn hw k (m + 1) _ _ q (by omega) (e4.mono (by omega)) (by omega)
      refine ⟨B', S', mk, ?_, ?_, f3⟩
      · rw [hrange, List.filter_cons, hb]
        simp only [if_true]
        rw [← f1]
        show (shG (m : Int) B).bind _ = _
        unfold shG
        rw [hw3, e1]
        rfl
      · rw [← f2]
        simp only [whX]
        have : F_impl_ShiftBy_l2 p (w : Int) (S, ((m + 1 : Nat) : Int)) = some (.nx (S.set ((m + 1 : Nat) : Int).toNat ((x + -1) % 8), ((m + 1 + 1 : Nat) : Int))) := by
          unfold F_impl_ShiftBy_l2
          simp only
          rw [hp, chk_t (by omega), s3, decide_eq_true (show ((m + 1 : Nat) : Int) < ((2 ^ n : Nat) : Int) by omega), hw1]
          simp only [cond_true]
          rw [chk_t (by omega), shr_bit (by omega) (by omega), hb, hw2]
          simp only [cond_true, e2, Option.bind_some]
        rw [this]; rfl
theorem own_eq {l : List Int} (h : l.length ≤ 1099511627776) : F_spec_l1Own l = some l ∧ F_slices_Clone_int_int l = some l := by
  unfold F_spec_l1Own F_slices_Clone_int_int
  rw [chk_t (by omega)]
  exact ⟨rfl, rfl⟩
def imSh (p : TPhasePoly) (w : Int) : Option (TPhasePoly × Bool) :=
  chk (p.Terms.length ≤ 9223372036854775807) <|
    (forN (F_impl_ShiftBy_l1 p) p.Terms.length 0 (List.replicate 32 0)).bind fun sums =>
    (whX (F_impl_ShiftBy_l2 p w) fuel (sums, 1)).bind <| orR fun (sums1, mask) =>
    (F_impl_coefficients_terms sums1).bind fun r_5 =>
    (F_slices_Clone_int_int p.Out.Rows).bind fun r_6 =>
    some (((TPhasePoly.mk p.Qubits p.Phase r_5 (TLinear.mk r_6)), true))
theorem shift_both {p : TPhasePoly} {n : Nat} {l : List Nat} (h : PolyOk p n l) {w : Nat} (hw : w < 2 ^ (2 ^ n - 1)) : ∃ z : TPhasePoly, F_spec_l15Shift p (w : Int) = some z ∧ imSh p (w : Int) = some (z, true) ∧ z.Terms.length ≤ 32 ∧ z.Out = p.Out := by
  have hn := h.1
  have hp31 := code_pow hn.2.1
  have t0 := terms_len h
  obtain ⟨B, S, f1, f2, f3⟩ := by_both h (g := F_impl_ShiftBy_l1 p) (fun i x S hx => by
    unfold F_impl_ShiftBy_l1
    rw [getI_nat, hx]
    simp only [Option.bind_some]
    cases F_impl_coefficients_add S x.Mask x.Coef <;> rfl)
  have h32 := pow32 hn.2.1
  obtain ⟨B', S', mk, g1, g2, g3⟩ := shift_loop (p := p) hn.2.2 ⟨hn.1, hn.2.1⟩ (show w < 2147483648 by omega) (2 ^ n - 1) 0 B S fuel (by omega) f3 (fuelB (by omega))
  obtain ⟨L, l1, l2, l3⟩ := terms_eq g3 (by omega)
  have hrows : p.Out.Rows.length ≤ 5 := by rw [h.2.2.1.1]; simp only [cI_len, h.2.2.1.2.1]; exact hn.2.1
  obtain ⟨o1, o2⟩ := own_eq (l := p.Out.Rows) (by omega)
  refine ⟨TPhasePoly.mk p.Qubits p.Phase L (TLinear.mk p.Out.Rows), ?_, ?_, l3, rfl⟩
  · unfold F_spec_l15Shift
    have hset : setW w 32 = (List.range' 0 (2 ^ n - 1)).filter fun j => w.testBit j := by
      have := set_stop hw (32 - (2 ^ n - 1))
      rw [show 2 ^ n - 1 + (32 - (2 ^ n - 1)) = 32 by omega] at this
      rw [this]
      unfold setW
      rw [List.range_eq_range']
    have hl : (cI (setW w 32)).length ≤ 32 := by
      rw [cI_len]
      exact Nat.le_trans (List.length_filter_le _ _) (by simp)
    rw [f1, setW_eq (by omega)]
    simp only [Option.bind_some]
    rw [chk_t (by omega), forN_goL (g := shG) _ 0 B (fun j x s hx => by
      unfold F_spec_l15Shift_l1 shG
      rw [Nat.zero_add, getI_nat, hx]; rfl), hset, g1]
    simp only [Option.bind_some, l1, o1]
  · unfold imSh
    rw [chk_t (by omega), f2]
    simp only [Option.bind_some]
    rw [show (S, (1 : Int)) = (S, ((0 + 1 : Nat) : Int)) from rfl, g2]
    simp only [Option.bind_some, orR, l2, o2]
theorem shiftBy_impl {p : TPhasePoly} {n : Nat} {l : List Nat} (h : PolyOk p n l) (hv : F_impl_IsValidPhasePoly p = some true) (w : Int) : F_impl_ShiftBy p w = (bif (codeL n).any (fun x => x == w) then imSh p w else some (TPhasePoly.mk 0 0 [] (TLinear.mk []), false)) := by
  obtain ⟨a, b, e1, e2⟩ := isCode_impl ⟨h.1.1, h.1.2.1⟩ w
  rw [← h.1.2.2] at e1
  unfold F_impl_ShiftBy
  rw [e1, hv]
  simp only [Option.bind_some, ← e2]
  cases a <;> cases b <;> first | rfl | (unfold imSh; rfl)
theorem any_mem {l : List Int} {w : Int} (h : l.any (fun x => x == w) = true) : w ∈ l := by
  obtain ⟨x, hx, he⟩ := List.any_eq_true.1 h
  rw [beq_iff_eq] at he
  subst he; exact hx
theorem or_i {a b : Nat} (ha : a < 9223372036854775808) (hb : b < 9223372036854775808) : bits .or .i64 (a : Int) (b : Int) = ((a ||| b : Nat) : Int) := by
  have h1 : a ||| b < 2 ^ 63 := Nat.or_lt_two_pow ha hb
  show IntKind.i64.wrap ((BitVec.ofInt 64 (a : Int) ||| BitVec.ofInt 64 (b : Int)).toNat : Int) = _
  have e1 : BitVec.ofInt 64 (a : Int) = BitVec.ofNat 64 a := rfl
  have e2 : BitVec.ofInt 64 (b : Int) = BitVec.ofNat 64 b := rfl
  rw [e1, e2, BitVec.toNat_or, BitVec.toNat_ofNat, BitVec.toNat_ofNat, Nat.mod_eq_of_lt (by omega), Nat.mod_eq_of_lt (by omega)]
  exact wrap_i64 ⟨by omega, by omega⟩
theorem xor_i {a b : Nat} (ha : a < 9223372036854775808) (hb : b < 9223372036854775808) : bits .xor .i64 (a : Int) (b : Int) = ((a ^^^ b : Nat) : Int) := by
  have h1 : a ^^^ b < 2 ^ 63 := Nat.xor_lt_two_pow ha hb
  show IntKind.i64.wrap ((BitVec.ofInt 64 (a : Int) ^^^ BitVec.ofInt 64 (b : Int)).toNat : Int) = _
  have e1 : BitVec.ofInt 64 (a : Int) = BitVec.ofNat 64 a := rfl
  have e2 : BitVec.ofInt 64 (b : Int) = BitVec.ofNat 64 b := rfl
  rw [e1, e2, BitVec.toNat_xor, BitVec.toNat_ofNat, BitVec.toNat_ofNat, Nat.mod_eq_of_lt (by omega), Nat.mod_eq_of_lt (by omega)]
  exact wrap_i64 ⟨by omega, by omega⟩
theorem shl_i {x k : Nat} (hk : k ≤ 60) (h : x * 2 ^ k < 9223372036854775808) : shlK .i64 (x : Int) (k : Int) = ((x * 2 ^ k : Nat) : Int) := by
  unfold shlK
  rw [Int.toNat_natCast, Nat.min_eq_left (show k ≤ IntKind.bits .i64 from by show k ≤ 64; omega)]
  have : (x : Int) * 2 ^ k = ((x * 2 ^ k : Nat) : Int) := by push_cast; rfl
  rw [this]
  exact wrap_i64 ⟨by omega, by omega⟩
theorem odd_both {p : TPhasePoly} {n : Nat} {l : List Nat} (h : PolyOk p n l) : ∃ w : Nat, F_spec_l15Odd p = some (w : Int) ∧ F_impl_oddWord p = some (w : Int) ∧ w < 2 ^ (2 ^ n - 1) := by
  have t0 := terms_len h
  have hn := h.1
  have h32 := pow32 hn.2.1
  have hp31 := code_pow hn.2.1
  obtain ⟨s, t, h1, h2, h3, w, h4, h5⟩ := forN2_inv (f := F_spec_l15Odd_l1 p) (g := F_impl_oddWord_l1 p) (fun _ s t => s = t ∧ ∃ w : Nat, s = (w : Int) ∧ w < 2 ^ (2 ^ n - 1)) p.Terms.length 0 0 0 ⟨rfl, 0, rfl, Nat.two_pow_pos _⟩ (fun i s t _ hi hI => by
    obtain ⟨rfl, w, rfl, hw⟩ := hI
    have hx := List.getElem?_eq_getElem (show i < p.Terms.length by omega)
    generalize p.Terms[i] = x at hx
    obtain ⟨m, hm, m1, m2⟩ := mask_nat h hx
    have hc := h.2.2.2.1 i x hx
    have hw1 : IntKind.i64.wrap (x.Mask - 1) = ((m - 1 : Nat) : Int) := by rw [hm, wrap_i64 ⟨by omega, by omega⟩]; omega
    have hu : IntKind.u64.wrap ((m - 1 : Nat) : Int) = ((m - 1 : Nat) : Int) := wrapU (by omega)
    unfold F_spec_l15Odd_l1 F_impl_oddWord_l1
    rw [getI_nat, hx]
    simp only [Option.bind_some, hw1, hu]
    rw [chk_t (by omega), chk_t (by omega)]
    have hpw : 2 ^ (m - 1) < 2 ^ (2 ^ n - 1) := Nat.pow_lt_pow_right (by decide) (by omega)
    have hpm : 2 ^ (m - 1) * 2 ≤ 2 ^ (2 ^ n - 1) := by
      rw [← Nat.pow_succ]; exact Nat.pow_le_pow_right (by decide) (by omega)
    have hcase : Int.tmod x.Coef 2 = 0 ∨ Int.tmod x.Coef 2 = 1 := by
      rw [Int.tmod_eq_emod_of_nonneg (by omega)]; omega
    rcases hcase with hz | hz
    · rw [hz]
      refine ⟨_, _, rfl, rfl, ?_, w, ?_, hw⟩
      · have := shl_i (x := 0) (k := m - 1) (by omega) (by omega)
        rw [show ((0 : Nat) : Int) = 0 from rfl] at this
        rw [this, Nat.zero_mul, or_i (by omega) (by decide), Nat.or_zero]
      · have := shl_i (x := 0) (k := m - 1) (by omega) (by omega)
        rw [show ((0 : Nat) : Int) = 0 from rfl] at this
        rw [this, Nat.zero_mul, or_i (by omega) (by decide), Nat.or_zero]
    · rw [hz]
      have := shl_i (x := 1) (k := m - 1) (by omega) (by omega)
      rw [show ((1 : Nat) : Int) = 1 from rfl] at this
      refine ⟨_, _, rfl, rfl, rfl, w ||| 2 ^ (m - 1), ?_, Nat.or_lt_two_pow hw hpw⟩
      rw [this, Nat.one_mul, or_i (by omega) (by omega)])
  unfold F_spec_l15Odd F_impl_oddWord
  rw [chk_t (by omega), chk_t (by omega), h1, h2]
  subst h3
  exact ⟨w, by rw [h4]; rfl, by rw [h4]; rfl, h5⟩
theorem near_both {n : Nat} (hn : 1 ≤ n ∧ n ≤ 5) {w : Nat} (hw : w < 2 ^ (2 ^ n - 1)) : ∃ x d, F_spec_l15Nearest (n : Int) (w : Int) = some (x, d) ∧ F_impl_nearest (n : Int) (w : Int) = some (x, d) ∧ x ∈ codeL n := by
  have hp31 := code_pow hn.2
  have h32 := pow32 hn.2
  have hl := code_len hn
  have c1 := codes_spec ⟨n, by omega⟩ hn.1
  have c2 := codes_impl ⟨n, by omega⟩ hn.1
  have c3 := (codes_range ⟨n, by omega⟩ hn.1).2.2
  simp only at c1 c2 c3
  obtain ⟨s1, s2, s3, s4, s5, s6⟩ := shl_small (n := (n : Int)) (by omega)
  rw [Int.toNat_natCast] at s2 s3 s4 s5 s6
  have hpop : (setW w 32).length < 2 ^ n := by
    have := set_stop hw (32 - (2 ^ n - 1))
    rw [show 2 ^ n - 1 + (32 - (2 ^ n - 1)) = 32 by omega] at this
    rw [this]
    have : (setW w (2 ^ n - 1)).length ≤ 2 ^ n - 1 := Nat.le_trans (List.length_filter_le _ _) (by simp)
    omega
  unfold F_spec_l15Nearest F_impl_nearest
  rw [setW_eq (by omega), c1, c2]
  simp only [Option.bind_some]
  rw [chk_t (by omega), chk_t (by omega), chk_t (by omega), s3, cI_len]
  obtain ⟨s, t, e1, e2, e3, e4⟩ := forN2_inv (f := F_spec_l15Nearest_l1 (codeL n) (w : Int)) (g := F_impl_nearest_l1 (codeL n) (w : Int))
    (fun i s t => (i = 0 → s = (0, (((setW w 32).length : Nat) : Int)) ∧ t = (0, ((2 ^ n : Nat) : Int))) ∧ (1 ≤ i → s = t ∧ s.1 ∈ codeL n)) (codeL n).length 0 (0, (((setW w 32).length : Nat) : Int)) (0, ((2 ^ n : Nat) : Int)) ⟨fun _ => ⟨rfl, rfl⟩, fun h => absurd h (by decide)⟩ (fun i s t _ hi hI => by
      have hx := List.getElem?_eq_getElem (show i < (codeL n).length by omega)
      have hmem := List.getElem_mem (show i < (codeL n).length by omega)
      generalize (codeL n)[i] = x at hx hmem
      obtain ⟨v, rfl, hv⟩ := code_nat hn hmem
      have hxl : w ^^^ v < 2 ^ (2 ^ n - 1) := Nat.xor_lt_two_pow hw hv
      have f1 : F_spec_l15Nearest_l1 (codeL n) (w : Int) i s = some (bif decide ((((setW (w ^^^ v) 32).length : Nat) : Int) < s.2) then ((v : Int), (((setW (w ^^^ v) 32).length : Nat) : Int)) else s) := by
        unfold F_spec_l15Nearest_l1
        obtain ⟨a, b⟩ := s
        simp only [getI_nat, hx, Option.bind_some]
        rw [xor_i (by omega) (by omega), setW_eq (by omega)]
        simp only [Option.bind_some, cI_len]
        cases decide ((((setW (w ^^^ v) 32).length : Nat) : Int) < b) <;> rfl
      have f2 : F_impl_nearest_l1 (codeL n) (w : Int) i t = some (bif decide ((((setW (w ^^^ v) 32).length : Nat) : Int) < t.2) then ((v : Int), (((setW (w ^^^ v) 32).length : Nat) : Int)) else t) := by
        unfold F_impl_nearest_l1
        obtain ⟨a, b⟩ := t
        simp only [getI_nat, hx, Option.bind_some]
        rw [xor_i (by omega) (by omega), Nat.xor_comm v w, bitsIn_eq (by omega)]
        simp only [Option.bind_some]
        cases decide ((((setW (w ^^^ v) 32).length : Nat) : Int) < b) <;> rfl
      refine ⟨_, _, f1, f2, fun h => absurd h (by omega), fun _ => ?_⟩
      rcases Nat.eq_zero_or_pos i with h0 | h0
      · obtain ⟨rfl, rfl⟩ := hI.1 h0
        subst h0
        rw [c3] at hx
        have hv0 : v = 0 := by have := Option.some.inj hx; omega
        subst hv0
        rw [Nat.xor_zero]
        rw [decide_eq_false (show ¬ ((((setW w 32).length : Nat) : Int) < (0, (((setW w 32).length : Nat) : Int)).2) by simp), decide_eq_true (show ((((setW w 32).length : Nat) : Int) < ((0 : Int), ((2 ^ n : Nat) : Int)).2) by simp only; omega)]
        exact ⟨rfl, hmem⟩
      · obtain ⟨rfl, hm⟩ := hI.2 h0
        refine ⟨rfl, ?_⟩
        cases decide ((((setW (w ^^^ v) 32).length : Nat) : Int) < s.2) with
        | false => exact hm
        | true => exact hmem)
  have hpos : 0 < (codeL n).length := by
    rcases Nat.eq_zero_or_pos (codeL n).length with h | h
    · rw [List.getElem?_eq_none (by omega)] at c3; cases c3
    · exact h
  obtain ⟨rfl, e5⟩ := e4 (by omega)
  rw [e1, e2]
  exact ⟨s.1, s.2, rfl, rfl, e5⟩
theorem sameI (a b : List Int) (h : a.length ≤ 9223372036854775807) : ∃ r, F_spec_l1Same a b = some r ∧ F_slices_Equal_int_int a b = some r := by
  have e : F_spec_l1Same a b = F_slices_Equal_int_int a b := rfl
  rw [e]
  unfold F_slices_Equal_int_int
  by_cases hl : a.length = b.length
  · have e2 : ((a.length : Int) != (b.length : Int)) = false := by rw [hl]; exact bne_self_eq_false _
    rw [e2]
    simp only [cond_false]
    rw [chk_t h]
    rcases forX_inv (f := F_slices_Equal_int_int_l1 a b) (fun _ _ => True) (fun _ => True) a.length 0 () trivial (fun i s _ hi _ => by
      have hx := List.getElem?_eq_getElem (show i < a.length by omega)
      have hy := List.getElem?_eq_getElem (show i < b.length by omega)
      unfold F_slices_Equal_int_int_l1
      rw [getI_nat, getI_nat, hx, hy]
      simp only [Option.bind_some]
      cases a[i] != b[i]
      · exact .inl ⟨(), by first | rfl | trivial, trivial⟩
      · exact .inr ⟨false, rfl, trivial⟩) with ⟨s, h1, _⟩ | ⟨r, h1, _⟩
    · rw [h1]; exact ⟨true, rfl, rfl⟩
    · rw [h1]; exact ⟨r, rfl, rfl⟩
  · have e2 : ((a.length : Int) != (b.length : Int)) = true := by simp; omega
    rw [e2]; exact ⟨false, rfl, rfl⟩
theorem sameT (a b : List TTerm) (h : a.length ≤ 9223372036854775807) : ∃ r, F_spec_l15SameTerms a b = some r ∧ F_slices_Equal_impl_Term_impl_Term a b = some r := by
  have e : F_spec_l15SameTerms a b = F_slices_Equal_impl_Term_impl_Term a b := rfl
  rw [e]
  unfold F_slices_Equal_impl_Term_impl_Term
  by_cases hl : a.length = b.length
  · have e2 : ((a.length : Int) != (b.length : Int)) = false := by rw [hl]; exact bne_self_eq_false _
    rw [e2]
    simp only [cond_false]
    rw [chk_t h]
    rcases forX_inv (f := F_slices_Equal_impl_Term_impl_Term_l1 a b) (fun _ _ => True) (fun _ => True) a.length 0 () trivial (fun i s _ hi _ => by
      have hx := List.getElem?_eq_getElem (show i < a.length by omega)
      have hy := List.getElem?_eq_getElem (show i < b.length by omega)
      unfold F_slices_Equal_impl_Term_impl_Term_l1
      rw [getI_nat, getI_nat, hx, hy]
      simp only [Option.bind_some]
      cases (a[i].Mask == b[i].Mask) && ((a[i].Coef == b[i].Coef) && true)
      · exact .inr ⟨false, rfl, trivial⟩
      · exact .inl ⟨(), by first | rfl | trivial, trivial⟩) with ⟨s, h1, _⟩ | ⟨r, h1, _⟩
    · rw [h1]; exact ⟨true, rfl, rfl⟩
    · rw [h1]; exact ⟨r, rfl, rfl⟩
  · have e2 : ((a.length : Int) != (b.length : Int)) = true := by simp; omega
    rw [e2]; exact ⟨false, rfl, rfl⟩
theorem to_TermS (a : List TTerm) (h : a.length ≤ 1099511627776) : F_laws_toTermS a = some a := by
  unfold F_laws_toTermS
  rw [chk_t (by omega), chk_t (by omega), forN_fill (a := a) (by simp) (fun i out x hx ho => ?_)]
  · rfl
  · have hi := (List.getElem?_eq_some_iff.1 hx).1
    unfold F_laws_toTermS_l1 F_laws_toTerm
    simp [getI_nat, hx, List.getElem?_eq_getElem (show i < out.length by omega)]
theorem sz_TermS (a : List TTerm) (left : Int) (h : 0 ≤ left ∧ left ≤ 1048576) (ha : a.length ≤ 9223372036854775807) :
    (∃ s, F_laws_szTermS a left = some s ∧ (0 ≤ s ∧ s ≤ 1048576) ∧ a.length ≤ 1048576) ∨ ∃ s, F_laws_szTermS a left = some s ∧ s < 0 := by
  unfold F_laws_szTermS
  rw [wrap_i64 (a := left - (a.length : Int)) ⟨by omega, by omega⟩]
  by_cases hs : left - (a.length : Int) < 0
  · rw [decide_eq_true hs]; exact .inr ⟨_, rfl, by decide⟩
  · rw [decide_eq_false hs]; exact .inl ⟨_, rfl, ⟨by omega, by omega⟩, by omega⟩
theorem eqr_TermS (a : List TTerm) (h : a.length ≤ 1099511627776) : F_laws_eqTermS a a = some true := by
  unfold F_laws_eqTermS
  simp only [bne_self_eq_false, cond_false]
  rw [chk_t (by omega), forX_pass (fun i hi => ?_)]
  · simp [orR]
  · unfold F_laws_eqTermS_l1 F_laws_eqTerm
    simp [getI_nat, List.getElem?_eq_getElem hi]
theorem to_IntS (a : List Int) (h : a.length ≤ 1099511627776) : F_laws_toIntS a = some a := by
  unfold F_laws_toIntS
  rw [chk_t (by omega), chk_t (by omega), forN_fill (a := a) (by simp) (fun i out x hx ho => ?_)]
  · rfl
  · have hi := (List.getElem?_eq_some_iff.1 hx).1
    unfold F_laws_toIntS_l1
    simp [getI_nat, hx, List.getElem?_eq_getElem (show i < out.length by omega)]
theorem sz_IntS (a : List Int) (left : Int) (h : 0 ≤ left ∧ left ≤ 1048576) (ha : a.length ≤ 9223372036854775807) :
    (∃ s, F_laws_szIntS a left = some s ∧ (0 ≤ s ∧ s ≤ 1048576) ∧ a.length ≤ 1048576) ∨ ∃ s, F_laws_szIntS a left = some s ∧ s < 0 := by
  unfold F_laws_szIntS
  rw [wrap_i64 (a := left - (a.length : Int)) ⟨by omega, by omega⟩]
  by_cases hs : left - (a.length : Int) < 0
  · rw [decide_eq_true hs]; exact .inr ⟨_, rfl, by decide⟩
  · rw [decide_eq_false hs]; exact .inl ⟨_, rfl, ⟨by omega, by omega⟩, by omega⟩
theorem eqr_IntS (a : List Int) (h : a.length ≤ 1099511627776) : F_laws_eqIntS a a = some true := by
  unfold F_laws_eqIntS
  simp only [bne_self_eq_false, cond_false]
  rw [chk_t (by omega), forX_pass (fun i hi => ?_)]
  · simp [orR]
  · unfold F_laws_eqIntS_l1
    simp [getI_nat, List.getElem?_eq_getElem hi]
theorem to_Linear (a : TLinear) (h0 : a.Rows.length ≤ 1099511627776) : F_laws_toLinear a = some a := by
  unfold F_laws_toLinear; simp only [to_IntS a.Rows h0, Option.bind_some]
theorem eqr_Linear (a : TLinear) (h0 : a.Rows.length ≤ 1099511627776) : F_laws_eqLinear a a = some true := by
  unfold F_laws_eqLinear; simp [eqr_IntS a.Rows h0]
theorem sz_Linear (a : TLinear) (left : Int) (h : 0 ≤ left ∧ left ≤ 1048576) (h0 : a.Rows.length ≤ 9223372036854775807) :
    (∃ s, F_laws_szLinear a left = some s ∧ (0 ≤ s ∧ s ≤ 1048576) ∧ a.Rows.length ≤ 1048576) ∨ ∃ s, F_laws_szLinear a left = some s ∧ s < 0 := by
  unfold F_laws_szLinear
  rcases sz_IntS a.Rows left h h0 with ⟨s0, e0, b0, t0_0⟩ | ⟨s0, e0, b0⟩
  rotate_left
  · exact .inr ⟨_, by rw [e0]; simp only [Option.bind_some, decide_eq_true b0, cond_true]; first | rfl | skip, by decide⟩
  rw [e0]
  simp only [Option.bind_some, decide_eq_false (show ¬ s0 < 0 by omega), cond_false]
  exact .inl ⟨_, rfl, b0, t0_0⟩
theorem to_PhasePoly (a : TPhasePoly) (h0 : a.Terms.length ≤ 1099511627776) (h1 : a.Out.Rows.length ≤ 1099511627776) : F_laws_toPhasePoly a = some a := by
  unfold F_laws_toPhasePoly; simp only [to_TermS a.Terms h0, to_Linear a.Out h1, Option.bind_some]
theorem eqr_PhasePoly (a : TPhasePoly) (h0 : a.Terms.length ≤ 1099511627776) (h1 : a.Out.Rows.length ≤ 1099511627776) : F_laws_eqPhasePoly a a = some true := by
  unfold F_laws_eqPhasePoly; simp [eqr_TermS a.Terms h0, eqr_Linear a.Out h1]
theorem sz_PhasePoly (a : TPhasePoly) (left : Int) (h : 0 ≤ left ∧ left ≤ 1048576) (h0 : a.Terms.length ≤ 9223372036854775807) (h1 : a.Out.Rows.length ≤ 9223372036854775807) :
    (∃ s, F_laws_szPhasePoly a left = some s ∧ (0 ≤ s ∧ s ≤ 1048576) ∧ a.Terms.length ≤ 1048576 ∧ a.Out.Rows.length ≤ 1048576) ∨ ∃ s, F_laws_szPhasePoly a left = some s ∧ s < 0 := by
  unfold F_laws_szPhasePoly
  rcases sz_TermS a.Terms left h h0 with ⟨s0, e0, b0, t0_0⟩ | ⟨s0, e0, b0⟩
  rotate_left
  · exact .inr ⟨_, by rw [e0]; simp only [Option.bind_some, decide_eq_true b0, cond_true]; first | rfl | skip, by decide⟩
  rw [e0]
  simp only [Option.bind_some, decide_eq_false (show ¬ s0 < 0 by omega), cond_false]
  rcases sz_Linear a.Out s0 b0 h1 with ⟨s1, e1, b1, t1_0⟩ | ⟨s1, e1, b1⟩
  rotate_left
  · exact .inr ⟨_, by rw [e1]; simp only [Option.bind_some, decide_eq_true b1, cond_true]; first | rfl | skip, by decide⟩
  rw [e1]
  simp only [Option.bind_some, decide_eq_false (show ¬ s1 < 0 by omega), cond_false]
  exact .inl ⟨_, rfl, b1, t0_0, t1_0⟩
/-- The law, where the two answer alike. -/
theorem law_of (a0 : TPhasePoly) (a1 : Int) (a2 : TPhasePoly) (ok0 : ok_PhasePoly a0) (ok1 : I64 a1) (ok2 : ok_PhasePoly a2) (hb : a0.Terms.length ≤ 1048576 → a0.Out.Rows.length ≤ 1048576 → a2.Terms.length ≤ 1048576 → a2.Out.Rows.length ≤ 1048576 → ∃ (r0 : Int) (r1 : Bool), F_spec_CheckReduction a0 a1 a2 = some (r0, r1) ∧ F_impl_CheckReduction a0 a1 a2 = some (r0, r1)) : F_laws_FnExactCheckReduction a0 a1 a2 = some true := by
  unfold F_laws_FnExactCheckReduction
  rcases sz_PhasePoly a0 1048576 ⟨by decide, by decide⟩ ok0.2.2.1.1 ok0.2.2.2.1 with ⟨s0, e0, b0, t0_0, t0_1⟩ | ⟨s0, e0, b0⟩
  rotate_left
  · simp only [e0, Option.bind_some, decide_eq_true b0, cond_true]
  rcases sz_PhasePoly a2 s0 b0 ok2.2.2.1.1 ok2.2.2.2.1 with ⟨s2, e2, b2, t2_0, t2_1⟩ | ⟨s2, e2, b2⟩
  rotate_left
  · simp only [e0, decide_eq_false (show ¬ s0 < 0 by omega), cond_false, Option.bind_some, e2, Option.bind_some, decide_eq_true b2, cond_true]
  obtain ⟨r0, r1, hs, hi⟩ := hb t0_0 t0_1 t2_0 t2_1
  simp only [e0, decide_eq_false (show ¬ s0 < 0 by omega), cond_false, Option.bind_some, e2, decide_eq_false (show ¬ s2 < 0 by omega), to_PhasePoly a0 (by omega) (by omega), eqr_PhasePoly a0 (by omega) (by omega), to_PhasePoly a2 (by omega) (by omega), eqr_PhasePoly a2 (by omega) (by omega), hs, hi, cond_true, gb, Bool.not_true, Bool.not_false, Bool.or_false, Bool.false_or, Bool.or_self, beq_self_eq_true, bne_self_eq_false]
theorem same_polys (p q : TPhasePoly) (h1 : p.Terms.length ≤ 9223372036854775807) (h2 : p.Out.Rows.length ≤ 9223372036854775807) : ∃ b, F_spec_l15Same p q = some b ∧ F_impl_equalPolys p q = some b := by
  obtain ⟨r, r1, r2⟩ := sameI p.Out.Rows q.Out.Rows h2
  obtain ⟨t, t1, t2⟩ := sameT p.Terms q.Terms h1
  unfold F_spec_l15Same F_impl_equalPolys
  rw [r1, r2, t1, t2]
  cases (p.Qubits == q.Qubits) && (p.Phase == q.Phase) <;> cases r <;> cases t <;> exact ⟨_, rfl, rfl⟩
theorem odd_count (q : TPhasePoly) (h : q.Terms.length ≤ 9223372036854775807) : ∃ c, F_spec_l13Odd q = some c ∧ F_impl_oddTerms q.Terms = some c := by
  have e : F_spec_l13Odd q = F_impl_oddTerms q.Terms := rfl
  rw [e]
  unfold F_impl_oddTerms
  rw [chk_t h]
  obtain ⟨c, h1, _⟩ := forN_inv (f := F_impl_oddTerms_l1 q.Terms) (fun _ _ => True) q.Terms.length 0 0 trivial (fun i s _ hi _ => by
    have hx := List.getElem?_eq_getElem (show i < q.Terms.length by omega)
    unfold F_impl_oddTerms_l1
    rw [getI_nat, hx]
    exact ⟨_, rfl, trivial⟩)
  rw [h1]
  exact ⟨c, rfl, rfl⟩
theorem law_FnExactCheckReduction (a0 : TPhasePoly) (a1 : Int) (a2 : TPhasePoly) (ok0 : ok_PhasePoly a0) (ok1 : I64 a1) (ok2 : ok_PhasePoly a2) : F_laws_FnExactCheckReduction a0 a1 a2 = some true := by
  refine law_of a0 a1 a2 ok0 ok1 ok2 (fun h0 h1 h2 h3 => ?_)
  obtain ⟨b0, s0, i0, p0⟩ := poly_both (p := a0) (by omega) (by omega)
  obtain ⟨b2, s2, i2, p2⟩ := poly_both (p := a2) (by omega) (by omega)
  unfold F_spec_CheckReduction F_impl_CheckReduction
  rw [s0, i0]
  simp only [Option.bind_some]
  cases b0 with
  | false =>
    simp only [gb, Bool.not_false, Bool.not_true, cond_false, Option.bind_some, Bool.true_or, cond_true]
    exact ⟨_, _, rfl, rfl⟩
  | true =>
    simp only [gb, Bool.not_false, Bool.not_true, cond_true, Bool.false_or]
    rw [s2, i2]
    simp only [Option.bind_some]
    cases b2 with
    | false =>
      simp only [Bool.not_false, cond_true]
      exact ⟨_, _, rfl, rfl⟩
    | true =>
      simp only [Bool.not_true, cond_false]
      obtain ⟨n, l, k0⟩ := p0 rfl
      obtain ⟨w, o1, o2, o3⟩ := odd_both k0
      obtain ⟨x, d, n1, n2, n3⟩ := near_both ⟨k0.1.1, k0.1.2.1⟩ o3
      have hc := codes_spec ⟨n, by have := k0.1; omega⟩ k0.1.1
      simp only at hc
      have hl := code_len ⟨k0.1.1, k0.1.2.1⟩
      have hsl : F_spec_l15Least a0 = some d := by
        unfold F_spec_l15Least
        rw [o1]
        simp only [Option.bind_some]
        rw [k0.1.2.2, n1]; rfl
      have hil : F_impl_LeastT a0 = some (d, true) := by
        unfold F_impl_LeastT
        rw [i0, o2]
        simp only [Option.bind_some, Bool.not_true, cond_false]
        rw [k0.1.2.2, n2]; rfl
      rw [shiftBy_impl k0 i0, hil, hsl, k0.1.2.2, hc]
      simp only [Option.bind_some, has_eq (l := codeL n) (by omega) a1]
      cases ha : (codeL n).any (fun x => x == a1) with
      | false => exact ⟨_, _, rfl, rfl⟩
      | true =>
        obtain ⟨v, rfl, hv⟩ := code_nat ⟨k0.1.1, k0.1.2.1⟩ (any_mem ha)
        obtain ⟨z, z1, z2, z3, z4⟩ := shift_both k0 hv
        have hzo : z.Out.Rows.length ≤ 5 := by
          have := k0.1.2.1
          rw [z4, k0.2.2.1.1]; simp only [cI_len, k0.2.2.1.2.1]; omega
        obtain ⟨b, q1, q2⟩ := same_polys z a2 (by omega) (by omega)
        obtain ⟨c, c1, c2⟩ := odd_count a2 (by omega)
        rw [z1, c1, c2]
        simp only [Bool.not_true, cond_false, cond_true, Option.bind_some, z2]
        rw [q1, q2]
        simp only [Option.bind_some]
        cases b <;> cases c != d <;> exact ⟨_, _, rfl, rfl⟩
end Go.VK
