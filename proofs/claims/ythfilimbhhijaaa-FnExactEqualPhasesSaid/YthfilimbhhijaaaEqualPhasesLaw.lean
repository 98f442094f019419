/- The plain law of FnExactEqualPhases: what its Lean function answers, for all arguments. -/
import Derived.Test.YthfilimbhhijaaaEqualPhasesFn
import Derived.Test.YthfilimbhhijaaaLibI
set_option maxRecDepth 10000
set_option maxHeartbeats 1000000
set_option linter.unusedSimpArgs false
set_option linter.unusedVariables false
namespace Go.VK
/-- What a sum is, taken by eight. -/
def m8 (x : Int) : Int := Int.tmod (IntKind.i64.wrap ((Int.tmod x 8) + 8)) 8
theorem m8_eq {x : Int} (h : -1000000 ≤ x ∧ x ≤ 1000000) : m8 x = x % 8 := by
  unfold m8
  by_cases h0 : 0 ≤ x
  · rw [Int.tmod_eq_emod_of_nonneg h0, wrap_i64 ⟨by omega, by omega⟩, Int.tmod_eq_emod_of_nonneg (by omega)]
    omega
  · obtain ⟨y, rfl⟩ : ∃ y, x = -y := ⟨-x, by omega⟩
    rw [Int.neg_tmod, Int.tmod_eq_emod_of_nonneg (show 0 ≤ y by omega), wrap_i64 ⟨by omega, by omega⟩, Int.tmod_eq_emod_of_nonneg (by omega)]
    omega
/-- The two tables of sums say the same: B as it runs, S taken by eight, with a bound. -/
def Same (N : Nat) (z : Int) (B S : List Int) : Prop :=
  B.length = N ∧ S.length = 32 ∧ N ≤ 32 ∧ (∀ (j : Nat) (x : Int), B[j]? = some x → -z ≤ x ∧ x ≤ z ∧ S[j]? = some (x % 8)) ∧ ∀ j, N ≤ j → j < 32 → S[j]? = some 0
theorem Same.mono {N : Nat} {z z' : Int} {B S : List Int} (h : Same N z B S) (hz : z ≤ z') : Same N z' B S :=
  ⟨h.1, h.2.1, h.2.2.1, fun j x hx => ⟨by have := (h.2.2.2.1 j x hx).1; omega, Int.le_trans (h.2.2.2.1 j x hx).2.1 hz, (h.2.2.2.1 j x hx).2.2⟩, h.2.2.2.2⟩
theorem Same.add {N : Nat} {z : Int} {B S : List Int} (h : Same N z B S) (hz : z ≤ 100000) {i d : Int} (h0 : 0 ≤ i) (h1 : i < N) (hd : -28 ≤ d ∧ d ≤ 28) :
    ∃ x, getI B i = some x ∧ F_impl_coefficients_add S i d = some (S.set i.toNat ((x + d) % 8)) ∧ IntKind.i64.wrap (x + d) = x + d ∧ Same N (z + 28) (B.set i.toNat (IntKind.i64.wrap (x + d))) (S.set i.toNat ((x + d) % 8)) := by
  obtain ⟨hB, hS, hN, hj, ho⟩ := h
  obtain ⟨x, hx, hx'⟩ := getI_at h0 (show i < B.length by omega)
  obtain ⟨x0, xz, xs⟩ := hj _ _ hx'
  have hw : IntKind.i64.wrap (x + d) = x + d := wrap_i64 ⟨by omega, by omega⟩
  have hs : getI S i = some (x % 8) := by unfold getI; rw [if_pos h0, xs]
  refine ⟨x, hx, ?_, hw, by simpa using hB, by simpa using hS, hN, ?_, ?_⟩
  · unfold F_impl_coefficients_add
    rw [hs]
    simp only [Option.bind_some]
    rw [wrap_i64 (a := x % 8 + d) ⟨by omega, by omega⟩]
    have := m8_eq (x := x % 8 + d) ⟨by omega, by omega⟩
    unfold m8 at this
    rw [this, show (x % 8 + d) % 8 = (x + d) % 8 by omega]
  · intro j y hy
    rw [List.getElem?_set] at hy ⊢
    by_cases e : i.toNat = j
    · subst e
      rw [if_pos rfl] at hy ⊢
      rw [if_pos (by omega)] at hy ⊢
      cases hy
      rw [hw]
      exact ⟨by omega, by omega, rfl⟩
    · rw [if_neg e] at hy ⊢
      have := hj j y hy
      exact ⟨by omega, by omega, this.2.2⟩
  · intro j hj1 hj2
    rw [List.getElem?_set, if_neg (by omega)]
    exact ho j hj1 hj2
/-- The two lists of terms. -/
theorem terms_eq {N : Nat} {z : Int} {B S : List Int} (h : Same N z B S) (hz : z ≤ 100000) : ∃ l, F_spec_l13List B = some l ∧ F_impl_coefficients_terms S = some l ∧ l.length ≤ 32 := by
  obtain ⟨hB, hS, hN, hj, ho⟩ := h
  unfold F_spec_l13List F_impl_coefficients_terms
  rw [chk_t (by omega)]
  have step : ∀ (i : Nat) (x : Int) (out : List TTerm), out.length ≤ i → i < 32 → S[i]? = some (x % 8) → ∃ out', F_impl_coefficients_terms_l1 S i out = some out' ∧ out'.length ≤ i + 1 ∧
      out' = (bif decide (0 < (i : Int)) && decide (0 < x % 8) then out ++ [TTerm.mk (i : Int) (x % 8)] else out) := fun i x out hl hi hx => by
    unfold F_impl_coefficients_terms_l1
    simp only [getI_nat, hx, Option.bind_some]
    cases decide (0 < (i : Int)) && decide (0 < x % 8)
    · exact ⟨out, rfl, by omega, rfl⟩
    · simp only [cond_true]
      rw [chk_t (by omega)]
      exact ⟨_, rfl, by simp; omega, rfl⟩
  obtain ⟨l, l', h1, h2, h3, h4⟩ := forN2_inv (f := F_spec_l13List_l1 B) (g := F_impl_coefficients_terms_l1 S) (fun i s t => s = t ∧ s.length ≤ i) N 0 [] [] ⟨rfl, Nat.le_refl _⟩ (fun i s t _ hi ⟨hst, hl⟩ => by
    subst hst
    have hi : i < N := by omega
    have hx := List.getElem?_eq_getElem (show i < B.length by omega)
    obtain ⟨x0, xz, xs⟩ := hj _ _ hx
    obtain ⟨out', e1, e2, e3⟩ := step i _ s hl (by omega) xs
    refine ⟨out', out', ?_, e1, rfl, e2⟩
    unfold F_spec_l13List_l1
    simp only [getI_nat, hx, Option.bind_some]
    have := m8_eq (x := B[i]) ⟨by omega, by omega⟩
    unfold m8 at this
    rw [this, e3]
    cases decide (0 < (i : Int)) && decide (0 < B[i] % 8)
    · rfl
    · simp only [cond_true]
      rw [chk_t (by omega)]
      rfl)
  rw [← h3] at h2
  obtain ⟨l'', h5, h6⟩ := forN_inv (f := F_impl_coefficients_terms_l1 S) (fun i s => s = l) (32 - N) N l rfl (fun i s hi1 hi2 hs => by
    subst hs
    refine ⟨s, ?_, rfl⟩
    unfold F_impl_coefficients_terms_l1
    have := ho i hi1 (by omega)
    simp only [getI_nat, this, Option.bind_some]
    simp)
  rw [h6] at h5
  have h7 : forN (F_impl_coefficients_terms_l1 S) 32 0 [] = some l := by
    have : ∀ (k i : Nat) (s r : List TTerm), forN (F_impl_coefficients_terms_l1 S) k i s = some r → forN (F_impl_coefficients_terms_l1 S) (k + (32 - N)) i s = forN (F_impl_coefficients_terms_l1 S) (32 - N) (i + k) r := by
      intro k
      induction k with
      | zero => intro i s r h; cases h; simp
      | succ k ih =>
        intro i s r h
        obtain ⟨s', a1, a2⟩ := forN_go h
        rw [show k + 1 + (32 - N) = k + (32 - N) + 1 by omega]
        show (F_impl_coefficients_terms_l1 S i s).bind _ = _
        rw [a1]
        simp only [Option.bind_some]
        rw [ih _ _ _ a2, show i + 1 + k = i + (k + 1) by omega]
    have := this N 0 [] l h2
    rw [show N + (32 - N) = 32 by omega] at this
    rw [this, Nat.zero_add, h5]
  rw [hB, h1, h7]
  exact ⟨l, rfl, rfl, by omega⟩
/-- The exclusive or of two small numbers. -/
theorem xor_nat {a b : Nat} (ha : a < 32) (hb : b < 32) : bits .xor .i64 (a : Int) (b : Int) = ((a ^^^ b : Nat) : Int) := by
  have h1 : a ^^^ b < 2 ^ 5 := Nat.xor_lt_two_pow ha hb
  show IntKind.i64.wrap ((BitVec.ofInt 64 (a : Int) ^^^ BitVec.ofInt 64 (b : Int)).toNat : Int) = _
  have e1 : BitVec.ofInt 64 (a : Int) = BitVec.ofNat 64 a := rfl
  have e2 : BitVec.ofInt 64 (b : Int) = BitVec.ofNat 64 b := rfl
  rw [e1, e2, BitVec.toNat_xor, BitVec.toNat_ofNat, BitVec.toNat_ofNat, Nat.mod_eq_of_lt (by omega), Nat.mod_eq_of_lt (by omega)]
  exact wrap_i64 ⟨by omega, by omega⟩
/-- The rows of a map over n wires, each a number below N. -/
def RowsOk (n N : Nat) (R : List Int) : Prop := R.length = n ∧ ∀ x ∈ R, 0 ≤ x ∧ x < N
theorem RowsOk.set {n N : Nat} {R : List Int} (h : RowsOk n N R) (i : Nat) {x : Nat} (hx : x < N) : RowsOk n N (R.set i (x : Int)) :=
  ⟨by rw [List.length_set]; exact h.1, fun y hy => by
    rcases List.mem_or_eq_of_mem_set hy with hy | rfl
    · exact h.2 y hy
    · omega⟩
theorem fuelB {n : Nat} (h : n < 18446744073709551616) : n < fuel := h
def Sp : List Nat → Nat → Prop
  | [], v => v = 0
  | x :: t, v => Sp t v ∨ Sp t (v ^^^ x)
theorem xx (a b : Nat) : a ^^^ b ^^^ b = a := by rw [Nat.xor_assoc, Nat.xor_self, Nat.xor_zero]
theorem xr (a b c : Nat) : a ^^^ b ^^^ c = a ^^^ c ^^^ b := by rw [Nat.xor_assoc, Nat.xor_comm b c, ← Nat.xor_assoc]
theorem sp_zero : ∀ L, Sp L 0
  | [] => rfl
  | _ :: t => .inl (sp_zero t)
theorem sp_close : ∀ {L : List Nat} {y v : Nat}, y ∈ L → Sp L v → Sp L (v ^^^ y)
  | z :: t, y, v, hy, hv => by
    rcases List.mem_cons.1 hy with rfl | hy
    · rcases hv with h | h
      · exact .inr (by rw [xx]; exact h)
      · exact .inl h
    · rcases hv with h | h
      · exact .inl (sp_close hy h)
      · exact .inr (by rw [xr]; exact sp_close hy h)
theorem sp_sub : ∀ {L L' : List Nat}, (∀ y ∈ L, y ∈ L') → ∀ {v : Nat}, Sp L v → Sp L' v
  | [], L', _, v, h => by
    have : v = 0 := h
    rw [this]; exact sp_zero L'
  | y :: t, L', hs, v, h => by
    rcases h with h | h
    · exact sp_sub (fun z hz => hs z (List.mem_cons_of_mem _ hz)) h
    · have := sp_close (hs y (List.mem_cons_self ..)) (sp_sub (fun z hz => hs z (List.mem_cons_of_mem _ hz)) h)
      rwa [xx] at this
def red (b x y : Nat) : Nat := if y.testBit b then y ^^^ x else y
theorem red_bit {b x : Nat} (hx : x.testBit b = true) (y : Nat) : (red b x y).testBit b = false := by
  unfold red
  cases h : y.testBit b with
  | true => simp [Nat.testBit_xor, h, hx]
  | false => simp [h]
theorem sp_r1 {b x : Nat} (hx : x.testBit b = true) : ∀ {L : List Nat} {v : Nat}, Sp (L.map (red b x)) v → v.testBit b = false
  | [], v, h => by
    have : v = 0 := h
    rw [this, Nat.zero_testBit]
  | y :: t, v, h => by
    rcases h with h | h
    · exact sp_r1 hx h
    · have h1 := sp_r1 hx h
      rw [Nat.testBit_xor, red_bit hx y] at h1
      simpa using h1
theorem sp_r2 {b x : Nat} : ∀ {L : List Nat} {v : Nat}, Sp (L.map (red b x)) v → Sp L v ∨ Sp L (v ^^^ x)
  | [], v, h => .inl h
  | y :: t, v, h => by
    rcases h with h | h
    · rcases sp_r2 h with h | h
      · exact .inl (.inl h)
      · exact .inr (.inl h)
    · unfold red at h
      split at h
      · rcases sp_r2 h with h | h
        · exact .inr (.inr (by rw [← Nat.xor_assoc, xr] at h; exact h))
        · exact .inl (.inr (by rw [← Nat.xor_assoc, xx] at h; exact h))
      · rcases sp_r2 h with h | h
        · exact .inl (.inr h)
        · exact .inr (.inr (by rw [xr]; exact h))
theorem sp_r3 {b x : Nat} : ∀ {L : List Nat} {v : Nat}, Sp L v → Sp (L.map (red b x)) v ∨ Sp (L.map (red b x)) (v ^^^ x)
  | [], v, h => .inl h
  | y :: t, v, h => by
    have key : ∀ u, (Sp (t.map (red b x)) (u ^^^ red b x y) → Sp ((y :: t).map (red b x)) u) := fun u hu => .inr hu
    rcases h with h | h
    · rcases sp_r3 (b := b) (x := x) h with h | h
      · exact .inl (.inl h)
      · exact .inr (.inl h)
    · rcases sp_r3 (b := b) (x := x) h with h | h
      · by_cases hb : y.testBit b = true
        · refine .inr (key _ ?_)
          unfold red; rw [if_pos hb, ← Nat.xor_assoc, xr (v ^^^ x), xx]; exact h
        · refine .inl (key _ ?_)
          unfold red; rw [if_neg hb]; exact h
      · by_cases hb : y.testBit b = true
        · refine .inl (key _ ?_)
          unfold red; rw [if_pos hb, ← Nat.xor_assoc]; exact h
        · refine .inr (key _ ?_)
          unfold red; rw [if_neg hb, xr]; exact h
theorem sp_red {b x : Nat} (hx : x.testBit b = true) {L : List Nat} {v : Nat} : Sp (L.map (red b x)) v ↔ Sp (x :: L) v ∧ v.testBit b = false := by
  constructor
  · intro h; exact ⟨sp_r2 h, sp_r1 hx h⟩
  · rintro ⟨h, hv⟩
    have no : ∀ {u : Nat}, u.testBit b = false → ¬ Sp (L.map (red b x)) (u ^^^ x) := fun hu h => by
      have := sp_r1 hx h
      rw [Nat.testBit_xor, hu, hx] at this
      simp at this
    rcases h with h | h
    · rcases sp_r3 (b := b) (x := x) h with h | h
      · exact h
      · exact absurd h (no hv)
    · rcases sp_r3 (b := b) (x := x) h with h | h
      · exact absurd h (no hv)
      · rw [xx] at h; exact h
theorem sp_none {b : Nat} : ∀ {L : List Nat} {v : Nat}, (∀ y ∈ L, y.testBit b = false) → Sp L v → v.testBit b = false
  | [], v, _, h => by
    have : v = 0 := h
    rw [this, Nat.zero_testBit]
  | y :: t, v, hn, h => by
    have hy := hn y (List.mem_cons_self ..)
    have ht : ∀ z ∈ t, z.testBit b = false := fun z hz => hn z (List.mem_cons_of_mem _ hz)
    rcases h with h | h
    · exact sp_none ht h
    · have := sp_none ht h
      rw [Nat.testBit_xor, hy] at this
      simpa using this
theorem sp_mem {L : List Nat} {y : Nat} (h : y ∈ L) : Sp L y := by
  have := sp_close h (sp_zero L)
  rwa [Nat.zero_xor] at this
/-- Small numbers as words. -/
def cI (l : List Nat) : List Int := l.map fun (x : Nat) => (x : Int)
theorem cI_len (l : List Nat) : (cI l).length = l.length := by simp [cI]
theorem cI_get {l : List Nat} {i x : Nat} (h : l[i]? = some x) : getI (cI l) (i : Int) = some (x : Int) := by
  rw [getI_nat]; simp [cI, h]
theorem cI_set (l : List Nat) (i x : Nat) : (cI l).set i (x : Int) = cI (l.set i x) := by simp [cI]
def sm5 (l : List Nat) : Prop := ∀ x ∈ l, x < 32
theorem xor32 {a b : Nat} (ha : a < 32) (hb : b < 32) : a ^^^ b < 32 := by
  have : a ^^^ b < 2 ^ 5 := Nat.xor_lt_two_pow ha hb
  omega
theorem tb_small : ∀ (x : Fin 32) (b : Fin 10), ((bits .and .i64 (shrK .i64 (x.val : Int) (b.val : Int)) 1) == 1) = x.val.testBit b.val := by decide +kernel
theorem tb {x b : Nat} (hx : x < 32) (hb : b < 10) : ((bits .and .i64 (shrK .i64 (x : Int) (b : Int)) 1) == 1) = x.testBit b := tb_small ⟨x, hx⟩ ⟨b, hb⟩
theorem wru' {a : Nat} (h : a < 1000) : IntKind.u64.wrap (a : Int) = (a : Int) := by
  simp [IntKind.wrap, IntKind.signed, IntKind.bits]
  omega
theorem red32 {b x y : Nat} (hx : x < 32) (hy : y < 32) : red b x y < 32 := by
  unfold red
  split
  · exact xor32 hy hx
  · exact hy
/-- The specification looks for a row. -/
theorem rank_find {r1 : List Int} {l : List Nat} {b : Nat} (hl : l.length = r1.length) (hs : sm5 l) (hn : l.length ≤ 64) (hb : b < 10) :
    ∀ (q m i : Nat), i + m = l.length → m < q → ∃ (a : Int) (i' : Int), whX (F_spec_l12Rank_l2 r1 (cI l) b) q (-1, (i : Int)) = some (.inl (a, i')) ∧
      ((a = -1 ∧ ∀ j y, i ≤ j → l[j]? = some y → y.testBit b = false) ∨ ∃ (j y : Nat), a = (j : Int) ∧ i ≤ j ∧ l[j]? = some y ∧ y.testBit b = true)
  | 0, _, _, _, h => absurd h (Nat.not_lt_zero _)
  | q + 1, 0, i, hm, _ => by
    refine ⟨-1, i, ?_, .inl ⟨rfl, fun j y hj hy => ?_⟩⟩
    · simp only [whX]
      unfold F_spec_l12Rank_l2
      simp only
      rw [decide_eq_false (show ¬ (i : Int) < (r1.length : Int) by omega)]
      rfl
    · have := (List.getElem?_eq_some_iff.1 hy).1; omega
  | q + 1, m + 1, i, hm, hq => by
    have hi : i < l.length := by omega
    have hx := List.getElem?_eq_getElem hi
    have hx32 := hs l[i] (List.getElem_mem hi)
    have hstep : F_spec_l12Rank_l2 r1 (cI l) b (-1, (i : Int)) = some (bif l[i].testBit b then .br ((i : Int), (i : Int)) else .nx (-1, ((i + 1 : Nat) : Int))) := by
      unfold F_spec_l12Rank_l2
      simp only
      rw [decide_eq_true (show (i : Int) < (r1.length : Int) by omega), cI_get hx]
      simp only [cond_true, Option.bind_some]
      rw [wru' (by omega), chk_t (by omega), tb hx32 hb, wrap_i64 (a := (i : Int) + 1) ⟨by omega, by omega⟩]
      cases l[i].testBit b <;> rfl
    cases hb' : l[i].testBit b with
    | true =>
      rw [hb'] at hstep
      exact ⟨i, i, by simp only [whX, hstep, cond_true, Option.bind_some], .inr ⟨i, l[i], rfl, Nat.le_refl _, hx, hb'⟩⟩
    | false =>
      rw [hb'] at hstep
      obtain ⟨a, i', h1, h2⟩ := rank_find hl hs hn hb q m (i + 1) (by omega) (by omega)
      refine ⟨a, i', by simp only [whX, hstep, cond_false, Option.bind_some]; exact h1, ?_⟩
      rcases h2 with ⟨h2, h3⟩ | ⟨j, y, h2, h3, h4, h5⟩
      · refine .inl ⟨h2, fun j y hj hy => ?_⟩
        by_cases hji : j = i
        · subst hji; rw [hx] at hy; cases hy; exact hb'
        · exact h3 j y (by omega) hy
      · exact .inr ⟨j, y, h2, by omega, h4, h5⟩
theorem rank_elim {l : List Nat} {r b x : Nat} (hs : sm5 l) (hx : x < 32) (hb : b < 10) :
    ∃ l2 : List Nat, forN (F_spec_l12Rank_l3 (r : Int) b (x : Int)) l.length 0 (cI l) = some (cI l2) ∧ l2.length = l.length ∧ sm5 l2 ∧ l2.drop (r + 1) = (l.drop (r + 1)).map (red b x) := by
  obtain ⟨s, h1, l2, rfl, h2, h3⟩ := forN_inv (f := F_spec_l12Rank_l3 (r : Int) b (x : Int)) (fun i s => ∃ l2 : List Nat, s = cI l2 ∧ l2.length = l.length ∧ ∀ j y, l[j]? = some y → l2[j]? = some (if j < i ∧ j ≠ r then red b x y else y)) l.length 0 (cI l)
    ⟨l, rfl, rfl, fun j y hy => by rw [if_neg (by omega)]; exact hy⟩ (fun i s _ hi ⟨l2, hs2, h2, h3⟩ => by
      subst hs2
      have hi : i < l.length := by omega
      have hy := List.getElem?_eq_getElem hi
      have h2i := h3 i _ hy
      rw [if_neg (by omega)] at h2i
      have hy32 := hs l[i] (List.getElem_mem hi)
      unfold F_spec_l12Rank_l3
      by_cases hir : i = r
      · subst hir
        have e : ((i : Int) != (i : Int)) = false := by simp
        rw [e]
        simp only [gb, cond_false, Option.bind_some, Bool.false_and]
        rw [chk_t (fun h => by cases h)]
        refine ⟨cI l2, rfl, l2, rfl, h2, fun j y hjy => ?_⟩
        rw [h3 j y hjy]
        by_cases hji : j = i
        · rw [if_neg (by omega), if_neg (by omega)]
        · by_cases hlt : j < i
          · rw [if_pos (by omega), if_pos (by omega)]
          · rw [if_neg (by omega), if_neg (by omega)]
      · have e : ((i : Int) != (r : Int)) = true := by simp; omega
        rw [e]
        simp only [gb, cond_true, Bool.true_and]
        rw [cI_get h2i]
        simp only [Option.bind_some]
        rw [wru' (by omega), chk_t (fun _ => by omega), tb hy32 hb]
        cases hbit : l[i].testBit b with
        | false =>
          refine ⟨cI l2, rfl, l2, rfl, h2, fun j y hjy => ?_⟩
          rw [h3 j y hjy]
          by_cases hji : j = i
          · subst hji
            rw [hy] at hjy; cases hjy
            rw [if_neg (by omega), if_pos (by omega)]
            unfold red; rw [hbit]; simp
          · by_cases hlt : j < i ∧ j ≠ r
            · rw [if_pos hlt, if_pos (by omega)]
            · rw [if_neg hlt, if_neg (by omega)]
        | true =>
          simp only [cond_true, Option.bind_some, Int.toNat_natCast]
          rw [xor_nat hy32 hx, cI_set]
          refine ⟨_, rfl, _, rfl, by simpa using h2, fun j y hjy => ?_⟩
          rw [List.getElem?_set]
          by_cases hji : i = j
          · subst hji
            rw [hy] at hjy; cases hjy
            rw [if_pos rfl, if_pos (by omega), if_pos (by omega)]
            unfold red; rw [hbit]; rfl
          · rw [if_neg hji, h3 j y hjy]
            by_cases hlt : j < i ∧ j ≠ r
            · rw [if_pos hlt, if_pos (by omega)]
            · rw [if_neg hlt, if_neg (by omega)])
  rw [Nat.zero_add] at h3
  refine ⟨l2, h1, h2, fun y hy => ?_, ?_⟩
  · obtain ⟨j, hj⟩ := List.mem_iff_getElem?.1 hy
    have hjl : j < l.length := by rw [← h2]; exact (List.getElem?_eq_some_iff.1 hj).1
    have := h3 j _ (List.getElem?_eq_getElem hjl)
    rw [hj] at this
    cases this
    have h32 := hs l[j] (List.getElem_mem hjl)
    split
    · exact red32 hx h32
    · exact h32
  · apply List.ext_getElem?
    intro j
    rw [List.getElem?_drop, List.getElem?_map, List.getElem?_drop]
    by_cases hj : r + 1 + j < l.length
    · have hy := List.getElem?_eq_getElem hj
      rw [h3 _ _ hy, hy, if_pos (by omega)]; rfl
    · rw [List.getElem?_eq_none (by omega), List.getElem?_eq_none (by omega)]; rfl
theorem rank_elim2 {l : List Nat} {b x : Nat} (hs : sm5 l) (hx : x < 32) (hb : b < 10) : forN (F_impl_rankOf_l2 b (x : Int)) l.length 0 (cI l) = some (cI (l.map (red b x))) := by
  obtain ⟨s, h1, l2, rfl, h2, h3⟩ := forN_inv (f := F_impl_rankOf_l2 b (x : Int)) (fun i s => ∃ l2 : List Nat, s = cI l2 ∧ l2.length = l.length ∧ ∀ j y, l[j]? = some y → l2[j]? = some (if j < i then red b x y else y)) l.length 0 (cI l)
    ⟨l, rfl, rfl, fun j y hy => by rw [if_neg (by omega)]; exact hy⟩ (fun i s _ hi ⟨l2, hs2, h2, h3⟩ => by
      subst hs2
      have hi : i < l.length := by omega
      have hy := List.getElem?_eq_getElem hi
      have h2i := h3 i _ hy
      rw [if_neg (by omega)] at h2i
      have hy32 := hs l[i] (List.getElem_mem hi)
      unfold F_impl_rankOf_l2
      rw [cI_get h2i]
      simp only [Option.bind_some]
      rw [chk_t (by omega), tb hy32 hb]
      cases hbit : l[i].testBit b with
      | false =>
        refine ⟨cI l2, rfl, l2, rfl, h2, fun j y hjy => ?_⟩
        rw [h3 j y hjy]
        by_cases hji : j = i
        · subst hji
          rw [hy] at hjy; cases hjy
          rw [if_neg (by omega), if_pos (by omega)]
          unfold red; rw [hbit]; simp
        · by_cases hlt : j < i
          · rw [if_pos hlt, if_pos (by omega)]
          · rw [if_neg hlt, if_neg (by omega)]
      | true =>
        simp only [cond_true, Option.bind_some, Int.toNat_natCast]
        rw [xor_nat hy32 hx, cI_set]
        refine ⟨_, rfl, _, rfl, by simpa using h2, fun j y hjy => ?_⟩
        rw [List.getElem?_set]
        by_cases hji : i = j
        · subst hji
          rw [hy] at hjy; cases hjy
          rw [if_pos rfl, if_pos (by omega), if_pos (by omega)]
          unfold red; rw [hbit]; rfl
        · rw [if_neg hji, h3 j y hjy]
          by_cases hlt : j < i
          · rw [if_pos hlt, if_pos (by omega)]
          · rw [if_neg hlt, if_neg (by omega)])
  rw [h1]
  congr 2
  apply List.ext_getElem?
  intro j
  rw [List.getElem?_map]
  by_cases hj : j < l.length
  · have hy := List.getElem?_eq_getElem hj
    rw [h3 _ _ hy, hy, if_pos (by omega)]; rfl
  · rw [List.getElem?_eq_none (by omega), List.getElem?_eq_none (by omega)]; rfl
theorem idx_find {l : List Nat} {b : Nat} (hs : sm5 l) (hn : l.length ≤ 64) (hb : b < 10) :
    ∃ a : Int, F_slices_IndexFunc_int_int (cI l) (fun x_0 => F_impl_rankOf_1 x_0 (b : Int)) = some a ∧ ((a = -1 ∧ ∀ y ∈ l, y.testBit b = false) ∨ ∃ j y : Nat, a = (j : Int) ∧ l[j]? = some y ∧ y.testBit b = true) := by
  unfold F_slices_IndexFunc_int_int
  rw [chk_t (by rw [cI_len]; omega)]
  rcases forX_inv (f := F_slices_IndexFunc_int_int_l1 (cI l) (fun x_0 => F_impl_rankOf_1 x_0 (b : Int))) (fun i _ => ∀ j y, j < i → l[j]? = some y → y.testBit b = false) (fun r => ∃ j y : Nat, r = (j : Int) ∧ l[j]? = some y ∧ y.testBit b = true) (cI l).length 0 () (fun j y hj => absurd hj (Nat.not_lt_zero _)) (fun i s _ hi hI => by
    rw [cI_len] at hi
    have hi : i < l.length := by omega
    have hy := List.getElem?_eq_getElem hi
    have hy32 := hs l[i] (List.getElem_mem hi)
    unfold F_slices_IndexFunc_int_int_l1 F_impl_rankOf_1
    rw [cI_get hy]
    simp only [Option.bind_some]
    rw [chk_t (by omega), tb hy32 hb]
    simp only [Option.bind_some]
    cases hbit : l[i].testBit b with
    | true => exact .inr ⟨_, rfl, i, l[i], rfl, hy, hbit⟩
    | false =>
      refine .inl ⟨(), rfl, fun j y hj hjy => ?_⟩
      by_cases hji : j = i
      · subst hji; rw [hy] at hjy; cases hjy; exact hbit
      · exact hI j y (by omega) hjy) with ⟨⟨⟩, h1, h2⟩ | ⟨r, h1, j, y, rfl, h3, h4⟩
  · rw [h1]
    refine ⟨-1, rfl, .inl ⟨rfl, fun y hy => ?_⟩⟩
    obtain ⟨j, hj⟩ := List.mem_iff_getElem?.1 hy
    exact h2 j y (by rw [cI_len, Nat.zero_add]; exact (List.getElem?_eq_some_iff.1 hj).1) hj
  · rw [h1]; exact ⟨_, rfl, .inr ⟨j, y, rfl, h3, h4⟩⟩
/-- The two ranks run beside each other. -/
def RankS (n : Nat) (s t : List Int × Int) : Prop := ∃ (l m : List Nat) (r : Nat), s = (cI l, (r : Int)) ∧ t = (cI m, (r : Int)) ∧ l.length = n ∧ r ≤ n ∧ m.length ≤ n ∧ sm5 l ∧ sm5 m ∧ ∀ v, Sp (l.drop r) v ↔ Sp m v
theorem rank_round {n b : Nat} (hn : n ≤ 5) (hb : b < 10) {r1 : List Int} (hr1 : r1.length = n) {s t : List Int × Int} (h : RankS n s t) :
    ∃ s' t', F_spec_l12Rank_l1 r1 b s = some s' ∧ F_impl_rankOf_l1 b t = some t' ∧ RankS n s' t' := by
  obtain ⟨l, m, r, rfl, rfl, hl, hr, hm, sl, smm, hSp⟩ := h
  obtain ⟨a, i', f1, f2⟩ := rank_find (r1 := r1) (l := l) (b := b) (by omega) sl (by omega) hb fuel (l.length - r) r (by omega) (fuelB (by omega))
  obtain ⟨a', g1, g2⟩ := idx_find (l := m) (b := b) smm (by omega) hb
  unfold F_spec_l12Rank_l1 F_impl_rankOf_l1
  simp only
  rw [f1, g1]
  simp only [Option.bind_some, orR]
  have hmemd : ∀ y, y ∈ l.drop r ↔ ∃ j, r ≤ j ∧ l[j]? = some y := fun y => by
    rw [List.mem_iff_getElem?]
    constructor
    · rintro ⟨j, hj⟩; rw [List.getElem?_drop] at hj; exact ⟨r + j, by omega, hj⟩
    · rintro ⟨j, hj, h⟩; exact ⟨j - r, by rw [List.getElem?_drop, show r + (j - r) = j by omega]; exact h⟩
  rcases f2 with ⟨rfl, f2⟩ | ⟨p, x, rfl, hp, hpx, hxb⟩
  · -- none in the specification: none in the program
    have hnone : ∀ y ∈ m, y.testBit b = false := fun y hy => sp_none (L := l.drop r) (fun z hz => by obtain ⟨j, h1, h2⟩ := (hmemd z).1 hz; exact f2 j z h1 h2) ((hSp y).2 (sp_mem hy))
    rcases g2 with ⟨rfl, _⟩ | ⟨j, y, rfl, h1, h2⟩
    · exact ⟨_, _, rfl, rfl, l, m, r, rfl, rfl, hl, hr, hm, sl, smm, hSp⟩
    · rw [hnone y (List.mem_of_getElem? h1)] at h2; cases h2
  · rcases g2 with ⟨rfl, g2⟩ | ⟨p', x', rfl, hpx', hxb'⟩
    · have := sp_none g2 ((hSp x).1 (sp_mem ((hmemd x).2 ⟨p, hp, hpx⟩)))
      rw [this] at hxb; cases hxb
    · have hpl : p < l.length := (List.getElem?_eq_some_iff.1 hpx).1
      have hrl : r < l.length := by omega
      have hrx := List.getElem?_eq_getElem hrl
      have hx32 := sl x (List.mem_of_getElem? hpx)
      have hx32' := smm x' (List.mem_of_getElem? hpx')
      have hr32 := sl l[r] (List.getElem_mem hrl)
      have hpl' : p' < m.length := (List.getElem?_eq_some_iff.1 hpx').1
      rw [decide_eq_false (show ¬ (p : Int) < 0 by omega), decide_eq_false (show ¬ (p' : Int) < 0 by omega)]
      simp only [cond_false]
      rw [cI_get hpx, cI_get hrx, cI_get hpx']
      simp only [Option.bind_some, Int.toNat_natCast]
      rw [cI_set]
      have hr2 : ∃ z, (l.set p l[r])[r]? = some z := ⟨_, List.getElem?_eq_getElem (by simpa using hrl)⟩
      obtain ⟨z, hz⟩ := hr2
      rw [cI_get hz, cI_set]
      simp only [Option.bind_some]
      rw [chk_t (by omega)]
      -- the specification's rows
      generalize hl1 : (l.set p l[r]).set r x = l1
      have l1len : l1.length = l.length := by rw [← hl1]; simp
      have l1get : ∀ j, l1[j]? = if j = r then (if j < l.length then some x else none) else if j = p then (if j < l.length then some l[r] else none) else l[j]? := fun j => by
        rw [← hl1, List.getElem?_set, List.getElem?_set]
        by_cases h1 : r = j
        · subst h1; rw [if_pos rfl, if_pos rfl, List.length_set]
        · rw [if_neg h1, if_neg (Ne.symm h1)]
          by_cases h2 : p = j
          · subst h2; simp
          · rw [if_neg h2, if_neg (Ne.symm h2)]
      have sl1 : sm5 l1 := fun y hy => by
        obtain ⟨j, hj⟩ := List.mem_iff_getElem?.1 hy
        rw [l1get] at hj
        split at hj
        · split at hj
          · cases hj; exact hx32
          · cases hj
        · split at hj
          · split at hj
            · cases hj; exact hr32
            · cases hj
          · exact sl y (List.mem_of_getElem? hj)
      obtain ⟨l2, e1, e2, e3, e4⟩ := rank_elim (l := l1) (r := r) (b := b) (x := x) sl1 hx32 hb
      rw [show r1.length = l1.length by omega, e1]
      -- the program's rows
      have hdel : F_slices_Delete_int_int (cI m) (p' : Int) (IntKind.i64.wrap ((p' : Int) + 1)) = some (cI (m.take p' ++ m.drop (p' + 1))) := by
        unfold F_slices_Delete_int_int
        rw [wrap_i64 (a := (p' : Int) + 1) ⟨by omega, by omega⟩, chk_t (by rw [cI_len]; omega)]
        have e : ((p' : Int) == (p' : Int) + 1) = false := beq_eq_false_iff_ne.2 (by omega)
        rw [e]
        simp only [cond_false]
        rw [chk_t (by omega)]
        have e2 : ((p' : Int) + 1).toNat = p' + 1 := by omega
        rw [Int.toNat_natCast, e2]
        unfold cI
        rw [List.map_append, List.map_take, List.map_drop]
      rw [hdel]
      simp only [Option.bind_some]
      generalize hm1 : m.take p' ++ m.drop (p' + 1) = m1
      have hmx : m = m.take p' ++ x' :: m.drop (p' + 1) := by
        have := List.getElem?_eq_some_iff.1 hpx'
        obtain ⟨h1, h2⟩ := this
        rw [← h2, List.getElem_cons_drop, List.take_append_drop]
      have mmem : ∀ y, y ∈ x' :: m1 ↔ y ∈ m := fun y => by
        rw [← hm1]
        conv => rhs; rw [hmx]
        simp only [List.mem_cons, List.mem_append]
        constructor
        · rintro (h | h | h)
          · exact .inr (.inl h)
          · exact .inl h
          · exact .inr (.inr h)
        · rintro (h | h | h)
          · exact .inr (.inl h)
          · exact .inl h
          · exact .inr (.inr h)
      have sm1 : sm5 m1 := fun y hy => smm y ((mmem y).1 (List.mem_cons_of_mem _ hy))
      have m1len : m1.length + 1 = m.length := by
        have := congrArg List.length hmx
        rw [← hm1]
        simp at this ⊢
        omega
      rw [cI_len, chk_t (by omega), rank_elim2 sm1 hx32' hb]
      simp only [Option.bind_some]
      rw [wrap_i64 (a := (r : Int) + 1) ⟨by omega, by omega⟩]
      refine ⟨_, _, rfl, rfl, l2, m1.map (red b x'), r + 1, rfl, rfl, by omega, by omega, by simp; omega, e3, fun y hy => ?_, fun v => ?_⟩
      · obtain ⟨z, hz, rfl⟩ := List.mem_map.1 hy
        exact red32 hx32' (sm1 z hz)
      · rw [e4, sp_red hxb, sp_red hxb']
        have k1 : ∀ u, Sp (x :: l1.drop (r + 1)) u ↔ Sp (l.drop r) u := fun u => by
          constructor
          · refine sp_sub (fun y hy => ?_)
            rcases List.mem_cons.1 hy with rfl | hy
            · exact (hmemd y).2 ⟨p, hp, hpx⟩
            · obtain ⟨j, hj⟩ := List.mem_iff_getElem?.1 hy
              rw [List.getElem?_drop, l1get, if_neg (by omega)] at hj
              split at hj
              · split at hj
                · cases hj; exact (hmemd _).2 ⟨r, Nat.le_refl _, hrx⟩
                · cases hj
              · exact (hmemd y).2 ⟨r + 1 + j, by omega, hj⟩
          · refine sp_sub (fun y hy => ?_)
            obtain ⟨j, hj, hjy⟩ := (hmemd y).1 hy
            have hjl := (List.getElem?_eq_some_iff.1 hjy).1
            by_cases hjp : j = p
            · subst hjp; rw [hpx] at hjy; cases hjy; exact List.mem_cons_self ..
            · by_cases hjr : j = r
              · subst hjr
                rw [hrx] at hjy; cases hjy
                refine List.mem_cons_of_mem _ (List.mem_iff_getElem?.2 ⟨p - (j + 1), ?_⟩)
                rw [List.getElem?_drop, l1get, show j + 1 + (p - (j + 1)) = p by omega, if_neg (by omega), if_pos rfl, if_pos hpl]
              · refine List.mem_cons_of_mem _ (List.mem_iff_getElem?.2 ⟨j - (r + 1), ?_⟩)
                rw [List.getElem?_drop, l1get, show r + 1 + (j - (r + 1)) = j by omega, if_neg hjr, if_neg hjp]; exact hjy
        have k2 : ∀ u, Sp (x' :: m1) u ↔ Sp m u := fun u => ⟨sp_sub (fun y hy => (mmem y).1 hy), sp_sub (fun y hy => (mmem y).2 hy)⟩
        rw [k1, k2, hSp]
theorem rank_both {l : List Nat} (hn : l.length ≤ 5) (hs : sm5 l) : ∃ r : Int, F_spec_l12Rank (cI l) = some r ∧ F_impl_rankOf (cI l) = some r := by
  have h0 : RankS l.length (cI l, 0) (cI l, 0) := ⟨l, l, 0, rfl, rfl, rfl, by omega, by omega, hs, hs, fun v => by rw [List.drop_zero]⟩
  obtain ⟨s, t, h1, h2, h3⟩ := forN2_inv (f := F_spec_l12Rank_l1 (cI l)) (g := F_impl_rankOf_l1) (fun _ s t => RankS l.length s t) 10 0 _ _ h0 (fun b s t _ hb h => rank_round hn (by omega) (cI_len l) h)
  obtain ⟨l', m', r, rfl, rfl, _⟩ := h3
  refine ⟨r, ?_, ?_⟩
  · unfold F_spec_l12Rank F_spec_l1Own
    rw [chk_t (by rw [cI_len]; omega)]
    simp only [Option.bind_some]
    rw [h1]; rfl
  · unfold F_impl_rankOf F_slices_Clone_int_int
    rw [chk_t (by rw [cI_len]; omega)]
    simp only [Option.bind_some]
    rw [h2]; rfl
theorem spec_in : F_spec_l1In = F_impl_within := rfl
theorem in_eq (n a b : Int) : F_impl_within n a b = some (decide (a ≤ n) && decide (n ≤ b)) := rfl
theorem bsV {α : Type} {b : Bool} {x y : α} : (bif b then some x else some y) = some (bif b then x else y) := by cases b <;> rfl
theorem shl_small {n : Int} (h : 1 ≤ n ∧ n ≤ 5) : (0 : Int) ≤ IntKind.u64.wrap n ∧ shlK .i64 1 (IntKind.u64.wrap n) = ((2 ^ n.toNat : Nat) : Int) ∧ shlK .i64 1 n = ((2 ^ n.toNat : Nat) : Int) ∧ 2 ^ n.toNat ≤ 32 ∧ 2 ≤ 2 ^ n.toNat ∧
    IntKind.i64.wrap (((2 ^ n.toNat : Nat) : Int) - 1) = ((2 ^ n.toNat : Nat) : Int) - 1 := by
  have : n = 1 ∨ n = 2 ∨ n = 3 ∨ n = 4 ∨ n = 5 := by omega
  rcases this with rfl | rfl | rfl | rfl | rfl <;> decide
theorem index_eqI {l : List Int} {f : Int → Option Bool} {p : Int → Bool} (hl : l.length ≤ 9223372036854775807) (hf : ∀ x, f x = some (p x)) :
    ∃ i, F_slices_IndexFunc_int_int l f = some i ∧ decide (0 ≤ i) = l.any p := by
  unfold F_slices_IndexFunc_int_int
  rw [chk_t hl]
  rcases forX_any (f := F_slices_IndexFunc_int_int_l1 l f) (l := l) (p := p) (q := fun i => (i : Int)) (fun i x hx => by
    unfold F_slices_IndexFunc_int_int_l1
    simp only [getI_nat, hx, Option.bind_some, hf, bsV]) with ⟨h1, h2⟩ | ⟨h1, i, _, h2⟩
  · rw [h2, h1]; exact ⟨-1, rfl, by decide⟩
  · rw [h2, h1]; exact ⟨i, rfl, by simp⟩
theorem contains_eqI {l : List Int} {f : Int → Option Bool} {p : Int → Bool} (hl : l.length ≤ 9223372036854775807) (hf : ∀ x, f x = some (p x)) :
    F_slices_ContainsFunc_int_int l f = some (l.any p) := by
  unfold F_slices_ContainsFunc_int_int
  obtain ⟨i, h1, h2⟩ := index_eqI hl hf
  rw [h1]; simp only [Option.bind_some, h2]
theorem any_not {α : Type} {l : List α} {p : α → Bool} : (l.any fun x => !p x) = !l.all p := by
  induction l with
  | nil => rfl
  | cons x l ih => simp only [List.any_cons, List.all_cons, ih, Bool.not_and]
theorem l1All_eq {l : List Int} (hl : l.length ≤ 9223372036854775807) (a b : Int) : F_spec_l1All l a b = some (l.all fun x => decide (a ≤ x) && decide (x ≤ b)) := by
  unfold F_spec_l1All
  rw [chk_t hl]
  rcases forX_any (f := F_spec_l1All_l1 l a b) (l := l) (p := fun x => !(decide (a ≤ x) && decide (x ≤ b))) (q := fun _ => false) (fun i x hx => by
    unfold F_spec_l1All_l1 F_spec_l1In
    simp only [getI_nat, hx, Option.bind_some, bsV]) with ⟨h1, h2⟩ | ⟨h1, i, _, h2⟩
  · rw [h2]
    rw [any_not] at h1
    simp only [Option.bind_some, orR]
    rw [show (l.all fun x => decide (a ≤ x) && decide (x ≤ b)) = true by simpa using h1]
  · rw [h2]
    rw [any_not] at h1
    simp only [Option.bind_some, orR]
    rw [show (l.all fun x => decide (a ≤ x) && decide (x ≤ b)) = false by simpa using h1]
/-- A list of small numbers is one of words. -/
theorem cI_of {R : List Int} (h : ∀ x ∈ R, 0 ≤ x) : R = cI (R.map Int.toNat) := by
  unfold cI
  rw [List.map_map]
  conv => lhs; rw [← List.map_id R]
  apply List.map_congr_left
  intro x hx
  have := h x hx
  simp only [id, Function.comp]
  omega
/-- Both say the same of a linear map. -/
theorem lin_both {R : List Int} (hl : R.length ≤ 9223372036854775807) : ∃ b, F_spec_l12Valid (TLinear.mk R) = some b ∧ F_impl_IsValidLinear (TLinear.mk R) = some b ∧
    (b = true → ∃ l : List Nat, R = cI l ∧ 1 ≤ l.length ∧ l.length ≤ 5 ∧ (∀ x ∈ l, x < 2 ^ l.length) ∧ F_spec_l12Rank R = some (R.length : Int)) := by
  unfold F_spec_l12Valid F_impl_IsValidLinear
  rw [spec_in, in_eq]
  simp only [Option.bind_some]
  by_cases hn : 1 ≤ (R.length : Int) ∧ (R.length : Int) ≤ 5
  · obtain ⟨s1, s2, s3, s4, s5, s6⟩ := shl_small hn
    rw [decide_eq_true hn.1, decide_eq_true hn.2]
    simp only [Bool.and_self, Bool.true_and, gb, cond_true]
    rw [chk_t (fun _ => s1), s2, s6, l1All_eq hl, contains_eqI (p := fun x => !(decide (0 ≤ x) && decide (x ≤ ((2 ^ ((R.length : Int)).toNat : Nat) : Int) - 1))) hl (fun x => by
      unfold F_impl_IsValidLinear_1
      rw [chk_t (by omega), s3, s6, in_eq]; rfl)]
    simp only [Option.bind_some, any_not, Bool.not_not]
    cases hall : R.all fun x => decide (0 ≤ x) && decide (x ≤ ((2 ^ ((R.length : Int)).toNat : Nat) : Int) - 1) with
    | false => exact ⟨false, by simp, by simp, fun h => by cases h⟩
    | true =>
      have hx : ∀ x ∈ R, 0 ≤ x ∧ x ≤ ((2 ^ ((R.length : Int)).toNat : Nat) : Int) - 1 := fun x hx => by
        have := List.all_eq_true.1 hall x hx
        simpa using this
      have hR := cI_of (fun x hx' => (hx x hx').1)
      have hlen : (R.map Int.toNat).length = R.length := by simp
      have hsm : ∀ x ∈ R.map Int.toNat, x < 2 ^ (R.map Int.toNat).length := fun x hx' => by
        obtain ⟨y, hy, rfl⟩ := List.mem_map.1 hx'
        have := hx y hy
        rw [hlen]
        rw [Int.toNat_natCast] at this
        omega
      obtain ⟨r, r1, r2⟩ := rank_both (l := R.map Int.toNat) (by omega) (fun x hx' => by
        have := hsm x hx'
        rw [hlen] at this
        rw [Int.toNat_natCast] at s4
        omega)
      rw [← hR] at r1 r2
      simp only [cond_true]
      rw [r1, r2]
      simp only [Option.bind_some, Bool.and_self, Bool.true_and]
      refine ⟨_, rfl, rfl, fun hb => ⟨R.map Int.toNat, hR, by omega, by omega, hsm, ?_⟩⟩
      have := eq_of_beq hb
      rw [this]
  · have e : (decide (1 ≤ (R.length : Int)) && decide ((R.length : Int) ≤ 5)) = false := by
      simp only [Bool.and_eq_false_iff, decide_eq_false_iff_not]; omega
    rw [e]
    simp only [gb, cond_false, Option.bind_some, Bool.false_and]
    rw [chk_t (fun h => by cases h)]
    exact ⟨false, rfl, rfl, fun h => by cases h⟩
/-- A phase polynomial that is taken, over n wires. -/
def PolyOk (p : TPhasePoly) (n : Nat) (l : List Nat) : Prop :=
  (1 ≤ n ∧ n ≤ 5 ∧ p.Qubits = (n : Int)) ∧ (0 ≤ p.Phase ∧ p.Phase ≤ 7) ∧ (p.Out = TLinear.mk (cI l) ∧ l.length = n ∧ (∀ x ∈ l, x < 2 ^ n) ∧ F_spec_l12Rank (cI l) = some (n : Int) ∧ F_spec_l12Valid p.Out = some true ∧ F_impl_IsValidLinear p.Out = some true) ∧
  (∀ (i : Nat) x, p.Terms[i]? = some x → (1 ≤ x.Mask ∧ x.Mask < ((2 ^ n : Nat) : Int) ∧ 1 ≤ x.Coef ∧ x.Coef ≤ 7)) ∧ (∀ (i : Nat) x y, p.Terms[i]? = some x → p.Terms[i + 1]? = some y → x.Mask < y.Mask)
theorem areTerms_both {T : List TTerm} {n : Int} (hn : 1 ≤ n ∧ n ≤ 5) (hl : T.length ≤ 9223372036854775807) : ∃ b, F_impl_areTerms n T = some b ∧
    (b = true → (∀ (i : Nat) x, T[i]? = some x → (1 ≤ x.Mask ∧ x.Mask < ((2 ^ n.toNat : Nat) : Int) ∧ 1 ≤ x.Coef ∧ x.Coef ≤ 7)) ∧ (∀ (i : Nat) x y, T[i]? = some x → T[i + 1]? = some y → x.Mask < y.Mask)) := by
  obtain ⟨s1, s2, s3, s4, s5, s6⟩ := shl_small hn
  unfold F_impl_areTerms
  rw [chk_t hl]
  rcases forX_inv (f := F_impl_areTerms_l1 T n) (fun k _ => (∀ (i : Nat) x, i < k → T[i]? = some x → (1 ≤ x.Mask ∧ x.Mask < ((2 ^ n.toNat : Nat) : Int) ∧ 1 ≤ x.Coef ∧ x.Coef ≤ 7)) ∧ (∀ (i : Nat) x y, i + 1 < k → T[i]? = some x → T[i + 1]? = some y → x.Mask < y.Mask)) (fun r => r = false)
    T.length 0 () ⟨fun i x h => absurd h (Nat.not_lt_zero _), fun i x y h => absurd h (Nat.not_lt_zero _)⟩ (fun k s _ hk ⟨h1, h2⟩ => by
    have hk : k < T.length := by omega
    have hx := List.getElem?_eq_getElem hk
    generalize T[k] = x at hx
    unfold F_impl_areTerms_l1
    rw [getI_nat, hx]
    simp only [Option.bind_some]
    rw [chk_t (by omega), s3, s6, in_eq, in_eq]
    simp only [Option.bind_some]
    by_cases hok : (1 ≤ x.Mask ∧ x.Mask ≤ ((2 ^ n.toNat : Nat) : Int) - 1) ∧ 1 ≤ x.Coef ∧ x.Coef ≤ 7
    · rw [decide_eq_true hok.1.1, decide_eq_true hok.1.2, decide_eq_true hok.2.1, decide_eq_true hok.2.2]
      simp only [Bool.and_self, Bool.not_true, Bool.not_false, Bool.or_self, gb, cond_true, Option.bind_some, Bool.true_and, Bool.false_or]
      have here : ∀ (i : Nat) z, i < k + 1 → T[i]? = some z → (1 ≤ z.Mask ∧ z.Mask < ((2 ^ n.toNat : Nat) : Int) ∧ 1 ≤ z.Coef ∧ z.Coef ≤ 7) := fun i z hi hz => by
        by_cases hik : i = k
        · subst hik; rw [hx] at hz; cases hz; exact ⟨hok.1.1, by omega, hok.2.1, hok.2.2⟩
        · exact h1 i z (by omega) hz
      by_cases hk0 : k = 0
      · subst hk0
        rw [decide_eq_false (show ¬ (0 : Int) < ((0 : Nat) : Int) by omega)]
        simp only [cond_false, Option.bind_some, Bool.false_and]
        exact .inl ⟨(), by first | rfl | trivial, here, fun i a b hi => by omega⟩
      · rw [decide_eq_true (show (0 : Int) < (k : Int) by omega), wrap_i64 (a := (k : Int) - 1) ⟨by omega, by omega⟩]
        obtain ⟨j, rfl⟩ : ∃ j, k = j + 1 := ⟨k - 1, by omega⟩
        rw [show (((j + 1 : Nat) : Int) - 1) = ((j : Nat) : Int) by omega, getI_nat]
        have hy := List.getElem?_eq_getElem (show j < T.length by omega)
        generalize T[j] = y at hy
        rw [hy]
        simp only [cond_true, Option.bind_some, Bool.true_and]
        by_cases hlt : x.Mask ≤ y.Mask
        · rw [decide_eq_true hlt]; exact .inr ⟨false, rfl, rfl⟩
        · rw [decide_eq_false hlt]
          refine .inl ⟨(), rfl, here, fun i a b hi ha hb => ?_⟩
          by_cases hij : i = j
          · subst hij; rw [hy] at ha; rw [hx] at hb; cases ha; cases hb; omega
          · exact h2 i a b (by omega) ha hb
    · refine .inr ⟨false, ?_, rfl⟩
      have e : ((!(decide (1 ≤ x.Mask) && decide (x.Mask ≤ ((2 ^ n.toNat : Nat) : Int) - 1))) || !(decide (1 ≤ x.Coef) && decide (x.Coef ≤ 7))) = true := by
        simp only [Bool.or_eq_true, Bool.not_eq_true', Bool.and_eq_false_iff, decide_eq_false_iff_not]
        omega
      cases hA : decide (1 ≤ x.Mask) && decide (x.Mask ≤ ((2 ^ n.toNat : Nat) : Int) - 1) with
      | false => simp [gb]
      | true =>
        rw [hA] at e
        simp only [Bool.not_true, Bool.false_or, Bool.not_eq_true'] at e
        simp [gb, e]) with ⟨⟨⟩, h1, h2, h3⟩ | ⟨r, h1, rfl⟩
  · rw [h1]
    exact ⟨true, rfl, fun _ => ⟨fun i x hx => h2 i x (by have := (List.getElem?_eq_some_iff.1 hx).1; omega) hx, fun i x y hx hy => h3 i x y (by have := (List.getElem?_eq_some_iff.1 hy).1; omega) hx hy⟩⟩
  · rw [h1]; exact ⟨false, rfl, fun h => by cases h⟩
theorem terms_loop {p : TPhasePoly} (hn : 1 ≤ p.Qubits ∧ p.Qubits ≤ 5) : F_spec_l13Valid_l1 p = F_impl_areTerms_l1 p.Terms p.Qubits := by
  obtain ⟨s1, s2, s3, s4, s5, s6⟩ := shl_small hn
  funext i u
  unfold F_spec_l13Valid_l1 F_impl_areTerms_l1
  rw [spec_in, s2, s3]
  cases getI p.Terms (i : Int) with
  | none => rfl
  | some x =>
    simp only [Option.bind_some]
    rw [chk_t s1, chk_t (by omega)]
/-- Both say the same of a phase polynomial. -/
theorem poly_both {p : TPhasePoly} (h1 : p.Terms.length ≤ 9223372036854775807) (h2 : p.Out.Rows.length ≤ 9223372036854775807) :
    ∃ b, F_spec_l13Valid p = some b ∧ F_impl_IsValidPhasePoly p = some b ∧ (b = true → ∃ n l, PolyOk p n l) := by
  obtain ⟨Q, P, T, ⟨R⟩⟩ := p
  obtain ⟨b1, e1, e2, e3⟩ := lin_both h2
  unfold F_spec_l13Valid F_impl_IsValidPhasePoly
  rw [spec_in, in_eq, in_eq]
  simp only [Option.bind_some]
  by_cases hn : 1 ≤ Q ∧ Q ≤ 5
  · obtain ⟨b2, f1, f2⟩ := areTerms_both (T := T) hn h1
    rw [decide_eq_true hn.1, decide_eq_true hn.2]
    rw [terms_loop (p := TPhasePoly.mk Q P T (TLinear.mk R)) hn]
    have hspec : (chk (T.length ≤ 9223372036854775807) <| (forX (F_impl_areTerms_l1 T Q) T.length 0 ()).bind <| orR fun _ => some true) = some b2 := f1
    simp only [gb, Bool.and_self, Bool.not_true, Bool.not_false, cond_true, Option.bind_some, Bool.false_or, Bool.true_and]
    cases hP : decide (0 ≤ P) && decide (P ≤ 7) with
    | false =>
      simp only [cond_false, cond_true, Bool.not_false, Bool.not_true, Bool.true_or, Option.bind_some, Bool.false_and]
      exact ⟨false, rfl, rfl, fun h => by cases h⟩
    | true =>
      simp only [cond_true, Bool.not_true, Bool.false_or, Option.bind_some, Bool.true_and]
      rw [f1]
      simp only [Option.bind_some]
      by_cases hlen : (R.length : Int) = Q
      · have g1 : ((R.length : Int) != Q) = false := by simp [hlen]
        have g2 : ((R.length : Int) == Q) = true := by simp [hlen]
        rw [g1, g2]
        simp only [Bool.not_false, cond_true, Bool.false_or, Bool.and_true]
        rw [e1]
        simp only [Option.bind_some]
        cases b1 with
        | false =>
          simp only [Bool.not_false, cond_true]
          cases b2 with
          | false => simp only [cond_false, Option.bind_some, Bool.false_and]; exact ⟨false, rfl, rfl, fun h => by cases h⟩
          | true => simp only [cond_true]; rw [e2]; exact ⟨false, rfl, rfl, fun h => by cases h⟩
        | true =>
          simp only [Bool.not_true, cond_false]
          rw [hspec]
          cases b2 with
          | false => simp only [cond_false, Option.bind_some, Bool.false_and]; exact ⟨false, rfl, rfl, fun h => by cases h⟩
          | true =>
            simp only [cond_true]
            rw [e2]
            refine ⟨true, rfl, rfl, fun _ => ?_⟩
            obtain ⟨l, l1, l2, l3, l4, l5⟩ := e3 rfl
            obtain ⟨t1, t2⟩ := f2 rfl
            have hll : l.length = R.length := by have := congrArg List.length l1; rw [cI_len] at this; exact this.symm
            have hP' : 0 ≤ P ∧ P ≤ 7 := by simpa using hP
            refine ⟨l.length, l, ⟨l2, l3, by simp only; omega⟩, hP', ⟨congrArg TLinear.mk l1, rfl, l4, ?_, e1, e2⟩, ?_, t2⟩
            · rw [← l1, hll]; exact l5
            · rw [show l.length = Q.toNat by omega]; exact t1
      · have g1 : ((R.length : Int) != Q) = true := by simp [hlen]
        have g2 : ((R.length : Int) == Q) = false := by simp [hlen]
        rw [g1, g2]
        simp only [Bool.not_true, cond_false, cond_true, Bool.true_or, Bool.and_false, Option.bind_some, Bool.false_and]
        exact ⟨false, rfl, rfl, fun h => by cases h⟩
  · have e : (decide (1 ≤ Q) && decide (Q ≤ 5)) = false := by
      simp only [Bool.and_eq_false_iff, decide_eq_false_iff_not]; omega
    rw [e]
    simp only [gb, cond_false, cond_true, Option.bind_some, Bool.false_and, Bool.not_false, Bool.not_true, Bool.true_or]
    exact ⟨false, rfl, rfl, fun h => by cases h⟩
def setN (m : Nat) : List Nat := (List.range 5).filter fun k => m.testBit k
theorem set_small : ∀ m : Fin 32, F_spec_l1Set ((m.val : Nat) : Int) = some (cI (setN m.val)) := by decide +kernel
theorem set_eq {m : Nat} (h : m < 32) : F_spec_l1Set (m : Int) = some (cI (setN m)) := set_small ⟨m, h⟩
theorem setN_len (m : Nat) : (setN m).length ≤ 5 := Nat.le_trans (List.length_filter_le _ _) (by simp)
theorem pow32 {n : Nat} (h : n ≤ 5) : 2 ^ n ≤ 32 := by
  have : 2 ^ n ≤ 2 ^ 5 := Nat.pow_le_pow_right (by decide) h
  omega
theorem mask_ge {p : TPhasePoly} {n : Nat} {l : List Nat} (h : PolyOk p n l) : ∀ (i : Nat) x, p.Terms[i]? = some x → (i : Int) + 1 ≤ x.Mask
  | 0, x, hx => by have := (h.2.2.2.1 0 x hx).1; omega
  | i + 1, x, hx => by
    have hl := (List.getElem?_eq_some_iff.1 hx).1
    have hz := List.getElem?_eq_getElem (show i < p.Terms.length by omega)
    have h1 := mask_ge h i _ hz
    have h2 := h.2.2.2.2 i _ x hz hx
    omega
theorem terms_len {p : TPhasePoly} {n : Nat} {l : List Nat} (h : PolyOk p n l) : p.Terms.length ≤ 31 := by
  rcases Nat.lt_or_ge 31 p.Terms.length with hl | hl
  · have hz := List.getElem?_eq_getElem hl
    have h1 := mask_ge h 31 _ hz
    have h2 := (h.2.2.2.1 31 _ hz).2.1
    have h3 := pow32 h.1.2.1
    omega
  · exact hl
theorem same_zero {n : Nat} (hn : n ≤ 5) : Same (2 ^ n) 0 (List.replicate (2 ^ n) 0) (List.replicate 32 0) := by
  have := pow32 hn
  refine ⟨by simp, by simp, this, fun j x hx => ?_, fun j h1 h2 => by rw [List.getElem?_replicate, if_pos h2]⟩
  have hj := (List.getElem?_eq_some_iff.1 hx).1
  rw [List.length_replicate] at hj
  rw [List.getElem?_replicate, if_pos hj] at hx
  cases hx
  refine ⟨by omega, by omega, ?_⟩
  rw [List.getElem?_replicate, if_pos (by omega)]; rfl
theorem bits_small : ∀ m : Fin 32, F_impl_bitsIn ((m.val : Nat) : Int) = some (((setN m.val).length : Nat) : Int) := by decide +kernel
theorem bits_eq {m : Nat} (h : m < 32) : F_impl_bitsIn (m : Int) = some (((setN m).length : Nat) : Int) := bits_small ⟨m, h⟩
theorem set_pos : ∀ m : Fin 32, (decide (m.val = 0) || decide (1 ≤ (setN m.val).length)) = true := by decide +kernel
theorem setN_pos {m : Nat} (h : m < 32) (h0 : 1 ≤ m) : 1 ≤ (setN m).length := by
  have := set_pos ⟨m, h⟩
  simp only [Bool.or_eq_true, decide_eq_true_eq] at this
  omega
theorem forN_wh {σ τ ρ : Type} {f : Nat → σ → Option σ} {g : τ × Int → Option (Ex (τ × Int) ρ)} {N : Nat} (I : Nat → σ → τ → Prop)
    (hs : ∀ i s t, i < N → I i s t → ∃ s' t', f i s = some s' ∧ g (t, (i : Int)) = some (.nx (t', ((i + 1 : Nat) : Int))) ∧ I (i + 1) s' t')
    (he : ∀ t, g (t, (N : Int)) = some (.br (t, (N : Int)))) :
    ∀ (k i q : Nat) (s : σ) (t : τ), i + k = N → k < q → I i s t → ∃ s' t', forN f k i s = some s' ∧ whX g q (t, (i : Int)) = some (.inl (t', (N : Int))) ∧ I N s' t'
  | _, _, 0, _, _, _, h, _ => absurd h (Nat.not_lt_zero _)
  | 0, i, q + 1, s, t, hi, _, hI => by
    have hi : i = N := by omega
    subst hi
    exact ⟨s, t, rfl, by simp only [whX, he, Option.bind_some], hI⟩
  | k + 1, i, q + 1, s, t, hi, hq, hI => by
    obtain ⟨s', t', h1, h2, h3⟩ := hs i s t (by omega) hI
    obtain ⟨s'', t'', h4, h5, h6⟩ := forN_wh I hs he k (i + 1) q s' t' (by omega) (by omega) h3
    refine ⟨s'', t'', ?_, ?_, h6⟩
    · show (f i s).bind _ = _
      rw [h1]; exact h4
    · simp only [whX, h2, Option.bind_some]; exact h5
theorem power_at {c : Nat} (h1 : 1 ≤ c) (h3 : c ≤ 3) : ∃ w : Int, getI [0, 1, (-2), 4] (c : Int) = some w ∧ -2 ≤ w ∧ w ≤ 4 := by
  have : c = 1 ∨ c = 2 ∨ c = 3 := by omega
  rcases this with rfl | rfl | rfl
  · exact ⟨1, rfl, by decide, by decide⟩
  · exact ⟨-2, rfl, by decide, by decide⟩
  · exact ⟨4, rfl, by decide, by decide⟩
theorem mono_inner {p : TPhasePoly} {n : Nat} {l : List Nat} (h : PolyOk p n l) {m : Nat} (hm : m < 2 ^ n) (h1 : 1 ≤ (setN m).length) (h3 : (setN m).length ≤ 3) {z : Int} (hz : 0 ≤ z ∧ z ≤ 50000) {B S : List Int} (hS : Same (2 ^ n) z B S)
    {w : Int} (hw : getI [0, 1, (-2), 4] (((setN m).length : Nat) : Int) = some w) (w1 : -2 ≤ w) (w2 : w ≤ 4) :
    ∃ B' S', forN (F_spec_l15Monomials_l2 p m (cI (setN m))) p.Terms.length 0 B = some B' ∧ forN (F_impl_MonomialsOf_l2 p (m : Int) w) p.Terms.length 0 S = some S' ∧ Same (2 ^ n) (z + 1000) B' S' := by
  have t0 := terms_len h
  obtain ⟨B', S', f1, f2, f3⟩ := forN2_inv (f := F_spec_l15Monomials_l2 p m (cI (setN m))) (g := F_impl_MonomialsOf_l2 p (m : Int) w) (fun i B S => Same (2 ^ n) (z + 28 * (i : Int)) B S) p.Terms.length 0 B S (hS.mono (by omega)) (fun i B S _ hi hS => by
    have hx := List.getElem?_eq_getElem (show i < p.Terms.length by omega)
    generalize p.Terms[i] = x at hx
    have hc := h.2.2.2.1 i x hx
    unfold F_spec_l15Monomials_l2 F_impl_MonomialsOf_l2
    rw [getI_nat, hx]
    simp only [Option.bind_some]
    have hwc : -14 ≤ w * x.Coef ∧ w * x.Coef ≤ 28 := by
      have hw' : w = -2 ∨ w = -1 ∨ w = 0 ∨ w = 1 ∨ w = 2 ∨ w = 3 ∨ w = 4 := by omega
      rcases hw' with rfl | rfl | rfl | rfl | rfl | rfl | rfl <;> omega
    cases hbit : bits .and .i64 x.Mask (m : Int) == (m : Int) with
    | false =>
      simp only [cond_false, Option.bind_some]
      exact ⟨_, _, rfl, rfl, hS.mono (by push_cast; omega)⟩
    | true =>
      simp only [cond_true]
      obtain ⟨x', e1, e2, e3, e4⟩ := hS.add (by omega) (i := (m : Int)) (d := w * x.Coef) (by omega) (by omega) ⟨by omega, by omega⟩
      rw [e1, cI_len, hw]
      simp only [Option.bind_some]
      rw [wrap_i64 (a := w * x.Coef) ⟨by omega, by omega⟩, e2]
      simp only [Option.bind_some]
      exact ⟨_, _, rfl, rfl, e4.mono (by push_cast; omega)⟩)
  exact ⟨B', S', f1, f2, f3.mono (by push_cast; omega)⟩
theorem mono_both {p : TPhasePoly} {n : Nat} {l : List Nat} (h : PolyOk p n l) (hv : F_impl_IsValidPhasePoly p = some true) : ∃ L, F_spec_l15Monomials p = some L ∧ F_impl_MonomialsOf p = some (L, true) ∧ L.length ≤ 32 := by
  have t0 := terms_len h
  have h32 := pow32 h.1.2.1
  have hq : 1 ≤ p.Qubits ∧ p.Qubits ≤ 5 := by have := h.1; omega
  obtain ⟨s1, s2, s3, s4, s5, s6⟩ := shl_small hq
  have hqn : p.Qubits.toNat = n := by have := h.1; omega
  rw [hqn] at s2 s3 s4 s5 s6
  unfold F_spec_l15Monomials F_impl_MonomialsOf
  rw [hv, chk_t s1, s2, chk_t ⟨by omega, by omega⟩, chk_t (by omega), Int.toNat_natCast]
  simp only [Option.bind_some, Bool.not_true, cond_false]
  have hfirst : F_spec_l15Monomials_l1 p 0 (List.replicate (2 ^ n) 0) = some (List.replicate (2 ^ n) 0) := by
    unfold F_spec_l15Monomials_l1
    rw [set_eq (m := 0) (by omega)]
    rfl
  have hN : 2 ^ n = 2 ^ n - 1 + 1 := by omega
  have hunroll : forN (F_spec_l15Monomials_l1 p) (2 ^ n) 0 (List.replicate (2 ^ n) 0) = forN (F_spec_l15Monomials_l1 p) (2 ^ n - 1) 1 (List.replicate (2 ^ n) 0) := by
    conv => lhs; arg 2; rw [hN]
    show (F_spec_l15Monomials_l1 p 0 _).bind _ = _
    rw [hfirst]; rfl
  rw [hunroll]
  obtain ⟨B', S', f1, f2, f3⟩ := forN_wh (f := F_spec_l15Monomials_l1 p) (g := F_impl_MonomialsOf_l1 p) (N := 2 ^ n) (fun i B S => 1 ≤ i ∧ Same (2 ^ n) (1000 * (i : Int)) B S) (fun i B S hi ⟨hi1, hS⟩ => by
    have hlen := setN_len i
    have hpos := setN_pos (show i < 32 by omega) hi1
    unfold F_spec_l15Monomials_l1 F_impl_MonomialsOf_l1
    simp only
    rw [set_eq (show i < 32 by omega), spec_in, chk_t (by omega), s3, decide_eq_true (show (i : Int) < ((2 ^ n : Nat) : Int) by omega), bits_eq (show i < 32 by omega)]
    simp only [Option.bind_some, cond_true, in_eq, cI_len]
    rw [wrap_i64 (a := (i : Int) + 1) ⟨by omega, by omega⟩]
    by_cases h3 : (setN i).length ≤ 3
    · rw [decide_eq_true (show (1 : Int) ≤ (((setN i).length : Nat) : Int) by omega), decide_eq_true (show (((setN i).length : Nat) : Int) ≤ 3 by omega), decide_eq_false (show ¬ (3 : Int) < (((setN i).length : Nat) : Int) by omega)]
      simp only [Bool.and_self, Bool.not_true, cond_false]
      obtain ⟨w, w0, w1, w2⟩ := power_at hpos h3
      obtain ⟨B', S', a1, a2, a3⟩ := mono_inner h hi hpos h3 (z := 1000 * (i : Int)) ⟨by omega, by omega⟩ hS w0 w1 w2
      rw [w0]
      simp only [Option.bind_some]
      rw [chk_t (by omega), chk_t (by omega), a1, a2]
      exact ⟨B', S', rfl, rfl, by omega, a3.mono (by push_cast; omega)⟩
    · rw [decide_eq_false (show ¬ (((setN i).length : Nat) : Int) ≤ 3 by omega), decide_eq_true (show (3 : Int) < (((setN i).length : Nat) : Int) by omega)]
      simp only [Bool.and_false, Bool.not_false, cond_true, Option.bind_some]
      exact ⟨B, S, rfl, rfl, by omega, hS.mono (by push_cast; omega)⟩) (fun S => by
    unfold F_impl_MonomialsOf_l1
    simp only
    rw [chk_t (by omega), s3, decide_eq_false (show ¬ ((2 ^ n : Nat) : Int) < ((2 ^ n : Nat) : Int) by omega)]
    rfl) (2 ^ n - 1) 1 fuel (List.replicate (2 ^ n) 0) (List.replicate 32 0) (by omega) (fuelB (by omega)) ⟨Nat.le_refl _, (same_zero h.1.2.1).mono (by omega)⟩
  rw [f1]
  rw [show ((List.replicate 32 (0 : Int), (1 : Int)) : List Int × Int) = (List.replicate 32 0, ((1 : Nat) : Int)) from rfl, f2]
  simp only [Option.bind_some, orR]
  obtain ⟨L, l1, l2, l3⟩ := terms_eq f3.2 (by omega)
  rw [l1, l2]
  exact ⟨L, rfl, rfl, l3⟩
def NOk (n : Nat) (l : List Nat) : Prop := l.length = n ∧ ∀ x ∈ l, x < 2 ^ n
def GsOk (n : Nat) (out : List TGate) : Prop := ∀ g ∈ out, ∃ a b : Nat, a < n ∧ b < n ∧ g = TGate.mk 9 (a : Int) (b : Int)
def EOk (n b : Nat) (s : List Int × List TGate) : Prop := ∃ l, s.1 = cI l ∧ NOk n l ∧ GsOk n s.2 ∧ s.2.length ≤ b
theorem EOk.mono {n b b' : Nat} {s : List Int × List TGate} (h : EOk n b s) (hb : b ≤ b') : EOk n b' s := by
  obtain ⟨l, h1, h2, h3, h4⟩ := h
  exact ⟨l, h1, h2, h3, by omega⟩
theorem to_TermS (a : List TTerm) (h : a.length ≤ 1099511627776) : F_laws_toTermS a = some a := by
  unfold F_laws_toTermS
  rw [chk_t (by omega), chk_t (by omega), forN_fill (a := a) (by simp) (fun i out x hx ho => ?_)]
  · rfl
  · have hi := (List.getElem?_eq_some_iff.1 hx).1
    unfold F_laws_toTermS_l1 F_laws_toTerm
    simp [getI_nat, hx, List.getElem?_eq_getElem (show i < out.length by omega)]
theorem sz_TermS (a : List TTerm) (left : Int) (h : 0 ≤ left ∧ left ≤ 1048576) (ha : a.length ≤ 9223372036854775807) :
    (∃ s, F_laws_szTermS a left = some s ∧ (0 ≤ s ∧ s ≤ 1048576) ∧ a.length ≤ 1048576) ∨ ∃ s, F_laws_szTermS a left = some s ∧ s < 0 := by
  unfold F_laws_szTermS
  rw [wrap_i64 (a := left - (a.length : Int)) ⟨by omega, by omega⟩]
  by_cases hs : left - (a.length : Int) < 0
  · rw [decide_eq_true hs]; exact .inr ⟨_, rfl, by decide⟩
  · rw [decide_eq_false hs]; exact .inl ⟨_, rfl, ⟨by omega, by omega⟩, by omega⟩
theorem eqr_TermS (a : List TTerm) (h : a.length ≤ 1099511627776) : F_laws_eqTermS a a = some true := by
  unfold F_laws_eqTermS
  simp only [bne_self_eq_false, cond_false]
  rw [chk_t (by omega), forX_pass (fun i hi => ?_)]
  · simp [orR]
  · unfold F_laws_eqTermS_l1 F_laws_eqTerm
    simp [getI_nat, List.getElem?_eq_getElem hi]
theorem to_IntS (a : List Int) (h : a.length ≤ 1099511627776) : F_laws_toIntS a = some a := by
  unfold F_laws_toIntS
  rw [chk_t (by omega), chk_t (by omega), forN_fill (a := a) (by simp) (fun i out x hx ho => ?_)]
  · rfl
  · have hi := (List.getElem?_eq_some_iff.1 hx).1
    unfold F_laws_toIntS_l1
    simp [getI_nat, hx, List.getElem?_eq_getElem (show i < out.length by omega)]
theorem sz_IntS (a : List Int) (left : Int) (h : 0 ≤ left ∧ left ≤ 1048576) (ha : a.length ≤ 9223372036854775807) :
    (∃ s, F_laws_szIntS a left = some s ∧ (0 ≤ s ∧ s ≤ 1048576) ∧ a.length ≤ 1048576) ∨ ∃ s, F_laws_szIntS a left = some s ∧ s < 0 := by
  unfold F_laws_szIntS
  rw [wrap_i64 (a := left - (a.length : Int)) ⟨by omega, by omega⟩]
  by_cases hs : left - (a.length : Int) < 0
  · rw [decide_eq_true hs]; exact .inr ⟨_, rfl, by decide⟩
  · rw [decide_eq_false hs]; exact .inl ⟨_, rfl, ⟨by omega, by omega⟩, by omega⟩
theorem eqr_IntS (a : List Int) (h : a.length ≤ 1099511627776) : F_laws_eqIntS a a = some true := by
  unfold F_laws_eqIntS
  simp only [bne_self_eq_false, cond_false]
  rw [chk_t (by omega), forX_pass (fun i hi => ?_)]
  · simp [orR]
  · unfold F_laws_eqIntS_l1
    simp [getI_nat, List.getElem?_eq_getElem hi]
theorem to_Linear (a : TLinear) (h0 : a.Rows.length ≤ 1099511627776) : F_laws_toLinear a = some a := by
  unfold F_laws_toLinear; simp only [to_IntS a.Rows h0, Option.bind_some]
theorem eqr_Linear (a : TLinear) (h0 : a.Rows.length ≤ 1099511627776) : F_laws_eqLinear a a = some true := by
  unfold F_laws_eqLinear; simp [eqr_IntS a.Rows h0]
theorem sz_Linear (a : TLinear) (left : Int) (h : 0 ≤ left ∧ left ≤ 1048576) (h0 : a.Rows.length ≤ 9223372036854775807) :
    (∃ s, F_laws_szLinear a left = some s ∧ (0 ≤ s ∧ s ≤ 1048576) ∧ a.Rows.length ≤ 1048576) ∨ ∃ s, F_laws_szLinear a left = some s ∧ s < 0 := by
  unfold F_laws_szLinear
  rcases sz_IntS a.Rows left h h0 with ⟨s0, e0, b0, t0_0⟩ | ⟨s0, e0, b0⟩
  rotate_left
  · exact .inr ⟨_, by rw [e0]; simp only [Option.bind_some, decide_eq_true b0, cond_true]; first | rfl | skip, by decide⟩
  rw [e0]
  simp only [Option.bind_some, decide_eq_false (show ¬ s0 < 0 by omega), cond_false]
  exact .inl ⟨_, rfl, b0, t0_0⟩
theorem to_PhasePoly (a : TPhasePoly) (h0 : a.Terms.length ≤ 1099511627776) (h1 : a.Out.Rows.length ≤ 1099511627776) : F_laws_toPhasePoly a = some a := by
  unfold F_laws_toPhasePoly; simp only [to_TermS a.Terms h0, to_Linear a.Out h1, Option.bind_some]
theorem eqr_PhasePoly (a : TPhasePoly) (h0 : a.Terms.length ≤ 1099511627776) (h1 : a.Out.Rows.length ≤ 1099511627776) : F_laws_eqPhasePoly a a = some true := by
  unfold F_laws_eqPhasePoly; simp [eqr_TermS a.Terms h0, eqr_Linear a.Out h1]
theorem sz_PhasePoly (a : TPhasePoly) (left : Int) (h : 0 ≤ left ∧ left ≤ 1048576) (h0 : a.Terms.length ≤ 9223372036854775807) (h1 : a.Out.Rows.length ≤ 9223372036854775807) :
    (∃ s, F_laws_szPhasePoly a left = some s ∧ (0 ≤ s ∧ s ≤ 1048576) ∧ a.Terms.length ≤ 1048576 ∧ a.Out.Rows.length ≤ 1048576) ∨ ∃ s, F_laws_szPhasePoly a left = some s ∧ s < 0 := by
  unfold F_laws_szPhasePoly
  rcases sz_TermS a.Terms left h h0 with ⟨s0, e0, b0, t0_0⟩ | ⟨s0, e0, b0⟩
  rotate_left
  · exact .inr ⟨_, by rw [e0]; simp only [Option.bind_some, decide_eq_true b0, cond_true]; first | rfl | skip, by decide⟩
  rw [e0]
  simp only [Option.bind_some, decide_eq_false (show ¬ s0 < 0 by omega), cond_false]
  rcases sz_Linear a.Out s0 b0 h1 with ⟨s1, e1, b1, t1_0⟩ | ⟨s1, e1, b1⟩
  rotate_left
  · exact .inr ⟨_, by rw [e1]; simp only [Option.bind_some, decide_eq_true b1, cond_true]; first | rfl | skip, by decide⟩
  rw [e1]
  simp only [Option.bind_some, decide_eq_false (show ¬ s1 < 0 by omega), cond_false]
  exact .inl ⟨_, rfl, b1, t0_0, t1_0⟩
/-- The law, where the two answer alike. -/
theorem law_of (a0 : TPhasePoly) (a1 : TPhasePoly) (ok0 : ok_PhasePoly a0) (ok1 : ok_PhasePoly a1) (hb : a0.Terms.length ≤ 1048576 → a0.Out.Rows.length ≤ 1048576 → a1.Terms.length ≤ 1048576 → a1.Out.Rows.length ≤ 1048576 → ∃ (r0 : Bool) (r1 : Bool), F_spec_EqualPhases a0 a1 = some (r0, r1) ∧ F_impl_EqualPhases a0 a1 = some (r0, r1)) : F_laws_FnExactEqualPhases a0 a1 = some true := by
  unfold F_laws_FnExactEqualPhases
  rcases sz_PhasePoly a0 1048576 ⟨by decide, by decide⟩ ok0.2.2.1.1 ok0.2.2.2.1 with ⟨s0, e0, b0, t0_0, t0_1⟩ | ⟨s0, e0, b0⟩
  rotate_left
  · simp only [e0, Option.bind_some, decide_eq_true b0, cond_true]
  rcases sz_PhasePoly a1 s0 b0 ok1.2.2.1.1 ok1.2.2.2.1 with ⟨s1, e1, b1, t1_0, t1_1⟩ | ⟨s1, e1, b1⟩
  rotate_left
  · simp only [e0, decide_eq_false (show ¬ s0 < 0 by omega), cond_false, Option.bind_some, e1, Option.bind_some, decide_eq_true b1, cond_true]
  obtain ⟨r0, r1, hs, hi⟩ := hb t0_0 t0_1 t1_0 t1_1
  simp only [e0, decide_eq_false (show ¬ s0 < 0 by omega), cond_false, Option.bind_some, e1, decide_eq_false (show ¬ s1 < 0 by omega), to_PhasePoly a0 (by omega) (by omega), eqr_PhasePoly a0 (by omega) (by omega), to_PhasePoly a1 (by omega) (by omega), eqr_PhasePoly a1 (by omega) (by omega), hs, hi, cond_true, gb, Bool.not_true, Bool.not_false, Bool.or_false, Bool.false_or, Bool.or_self, beq_self_eq_true, bne_self_eq_false]
theorem sameI (a b : List Int) (h : a.length ≤ 9223372036854775807) : ∃ r, F_spec_l1Same a b = some r ∧ F_slices_Equal_int_int a b = some r := by
  have e : F_spec_l1Same a b = F_slices_Equal_int_int a b := rfl
  rw [e]
  unfold F_slices_Equal_int_int
  by_cases hl : a.length = b.length
  · have e2 : ((a.length : Int) != (b.length : Int)) = false := by rw [hl]; exact bne_self_eq_false _
    rw [e2]
    simp only [cond_false]
    rw [chk_t h]
    rcases forX_inv (f := F_slices_Equal_int_int_l1 a b) (fun _ _ => True) (fun _ => True) a.length 0 () trivial (fun i s _ hi _ => by
      have hx := List.getElem?_eq_getElem (show i < a.length by omega)
      have hy := List.getElem?_eq_getElem (show i < b.length by omega)
      unfold F_slices_Equal_int_int_l1
      rw [getI_nat, getI_nat, hx, hy]
      simp only [Option.bind_some]
      cases a[i] != b[i]
      · exact .inl ⟨(), by first | rfl | trivial, trivial⟩
      · exact .inr ⟨false, rfl, trivial⟩) with ⟨s, h1, _⟩ | ⟨r, h1, _⟩
    · rw [h1]; exact ⟨true, rfl, rfl⟩
    · rw [h1]; exact ⟨r, rfl, rfl⟩
  · have e2 : ((a.length : Int) != (b.length : Int)) = true := by simp; omega
    rw [e2]; exact ⟨false, rfl, rfl⟩
theorem sameT (a b : List TTerm) (h : a.length ≤ 9223372036854775807) : ∃ r, F_spec_l15SameTerms a b = some r ∧ F_slices_Equal_impl_Term_impl_Term a b = some r := by
  have e : F_spec_l15SameTerms a b = F_slices_Equal_impl_Term_impl_Term a b := rfl
  rw [e]
  unfold F_slices_Equal_impl_Term_impl_Term
  by_cases hl : a.length = b.length
  · have e2 : ((a.length : Int) != (b.length : Int)) = false := by rw [hl]; exact bne_self_eq_false _
    rw [e2]
    simp only [cond_false]
    rw [chk_t h]
    rcases forX_inv (f := F_slices_Equal_impl_Term_impl_Term_l1 a b) (fun _ _ => True) (fun _ => True) a.length 0 () trivial (fun i s _ hi _ => by
      have hx := List.getElem?_eq_getElem (show i < a.length by omega)
      have hy := List.getElem?_eq_getElem (show i < b.length by omega)
      unfold F_slices_Equal_impl_Term_impl_Term_l1
      rw [getI_nat, getI_nat, hx, hy]
      simp only [Option.bind_some]
      cases (a[i].Mask == b[i].Mask) && ((a[i].Coef == b[i].Coef) && true)
      · exact .inr ⟨false, rfl, trivial⟩
      · exact .inl ⟨(), by first | rfl | trivial, trivial⟩) with ⟨s, h1, _⟩ | ⟨r, h1, _⟩
    · rw [h1]; exact ⟨true, rfl, rfl⟩
    · rw [h1]; exact ⟨r, rfl, rfl⟩
  · have e2 : ((a.length : Int) != (b.length : Int)) = true := by simp; omega
    rw [e2]; exact ⟨false, rfl, rfl⟩
theorem law_FnExactEqualPhases (a0 a1 : TPhasePoly) (ok0 : ok_PhasePoly a0) (ok1 : ok_PhasePoly a1) : F_laws_FnExactEqualPhases a0 a1 = some true := by
  refine law_of a0 a1 ok0 ok1 (fun h0 h1 h2 h3 => ?_)
  obtain ⟨b0, s0, i0, p0⟩ := poly_both (p := a0) (by omega) (by omega)
  obtain ⟨b1, s1, i1, p1⟩ := poly_both (p := a1) (by omega) (by omega)
  unfold F_spec_EqualPhases F_impl_EqualPhases
  rw [s0, i0]
  simp only [Option.bind_some]
  cases b0 with
  | false =>
    simp only [gb, Bool.not_false, Bool.not_true, cond_false, Option.bind_some, Bool.true_or, cond_true]
    exact ⟨_, _, rfl, rfl⟩
  | true =>
    simp only [gb, Bool.not_false, Bool.not_true, cond_true, Bool.false_or]
    rw [s1, i1]
    simp only [Option.bind_some]
    cases b1 with
    | false =>
      simp only [Bool.not_false, Bool.true_or, cond_true]
      exact ⟨_, _, rfl, rfl⟩
    | true =>
      simp only [Bool.not_true, Bool.false_or]
      cases hq : a0.Qubits != a1.Qubits with
      | true => exact ⟨_, _, rfl, rfl⟩
      | false =>
        simp only [cond_false]
        obtain ⟨n, l, k0⟩ := p0 rfl
        obtain ⟨n', l', k1⟩ := p1 rfl
        obtain ⟨L, e1, e2, e3⟩ := mono_both k0 i0
        obtain ⟨L', e1', e2', e3'⟩ := mono_both k1 i1
        obtain ⟨r, r1, r2⟩ := sameI a0.Out.Rows a1.Out.Rows (by omega)
        obtain ⟨t, t1, t2⟩ := sameT L L' (by omega)
        rw [e2, e2', r1, r2, e1, e1']
        simp only [Option.bind_some]
        cases a0.Phase == a1.Phase
        · simp only [cond_false, Option.bind_some, Bool.false_and]
          exact ⟨_, _, rfl, rfl⟩
        · simp only [cond_true, Option.bind_some, Bool.true_and]
          cases r
          · simp only [cond_false, Option.bind_some, Bool.false_and]
            exact ⟨_, _, rfl, rfl⟩
          · simp only [cond_true, Bool.true_and]
            rw [t1, t2]
            exact ⟨_, _, rfl, rfl⟩
end Go.VK
