/- The plain law of FnExactPathSumOf: what its Lean function answers, for all arguments. -/
import Derived.Test.YtklicjfbpikobaaPathSumOfFn
import Derived.Test.YtklicjfbpikobaaLibI
set_option maxRecDepth 10000
set_option maxHeartbeats 1000000
set_option linter.unusedSimpArgs false
set_option linter.unusedVariables false
namespace Go.VK
/-- What the specification holds (z, and its flag b') beside the number o (or none): the flag before is b; once it is set, it stays. -/
def SR {α : Type} (G : α → Prop) (o : Option α) (b : Bool) (z : α) (b' : Bool) : Prop := G z ∧ (b = true → b' = true) ∧ (b = false → (o = some z ∧ b' = false) ∨ (o = none ∧ b' = true))
theorem SR.bind {α β : Type} {G : α → Prop} {G' : β → Prop} {o : Option α} {o' : α → Option β} {b b' b'' : Bool} {z : α} {z' : β} (h1 : SR G o b z b') (h2 : SR G' (o' z) b' z' b'') : SR G' (o.bind o') b z' b'' := by
  refine ⟨h2.1, fun h => h2.2.1 (h1.2.1 h), fun h => ?_⟩
  rcases h1.2.2 h with ⟨rfl, rfl⟩ | ⟨rfl, rfl⟩
  · exact h2.2.2 rfl
  · exact .inr ⟨rfl, h2.2.1 rfl⟩
theorem SR.map {α β : Type} {G : α → Prop} {G' : β → Prop} {o : Option α} {b b' : Bool} {z : α} (h : SR G o b z b') (g : α → β) (hg : G z → G' (g z)) : SR G' (o.map g) b (g z) b' := by
  refine ⟨hg h.1, h.2.1, fun hb => ?_⟩
  rcases h.2.2 hb with ⟨rfl, h2⟩ | ⟨rfl, h2⟩
  · exact .inl ⟨rfl, h2⟩
  · exact .inr ⟨rfl, h2⟩
/-- The rows of a map over n wires, each a number below N. -/
def RowsOk (n N : Nat) (R : List Int) : Prop := R.length = n ∧ ∀ x ∈ R, 0 ≤ x ∧ x < N
theorem RowsOk.set {n N : Nat} {R : List Int} (h : RowsOk n N R) (i : Nat) {x : Nat} (hx : x < N) : RowsOk n N (R.set i (x : Int)) :=
  ⟨by rw [List.length_set]; exact h.1, fun y hy => by
    rcases List.mem_or_eq_of_mem_set hy with hy | rfl
    · exact h.2 y hy
    · omega⟩
theorem fuelB {n : Nat} (h : n < 18446744073709551616) : n < fuel := h
/-- Small numbers as words. -/
def cI (l : List Nat) : List Int := l.map fun (x : Nat) => (x : Int)
theorem cI_len (l : List Nat) : (cI l).length = l.length := by simp [cI]
theorem cI_get {l : List Nat} {i x : Nat} (h : l[i]? = some x) : getI (cI l) (i : Int) = some (x : Int) := by
  rw [getI_nat]; simp [cI, h]
theorem tb_small : ∀ (x : Fin 32) (b : Fin 10), ((bits .and .i64 (shrK .i64 (x.val : Int) (b.val : Int)) 1) == 1) = x.val.testBit b.val := by decide +kernel
theorem tb {x b : Nat} (hx : x < 32) (hb : b < 10) : ((bits .and .i64 (shrK .i64 (x : Int) (b : Int)) 1) == 1) = x.testBit b := tb_small ⟨x, hx⟩ ⟨b, hb⟩
theorem wru' {a : Nat} (h : a < 1000) : IntKind.u64.wrap (a : Int) = (a : Int) := by
  simp [IntKind.wrap, IntKind.signed, IntKind.bits]
  omega
theorem wrapU {a : Nat} (h : a < 18446744073709551616) : IntKind.u64.wrap (a : Int) = (a : Int) := by
  simp [IntKind.wrap, IntKind.signed, IntKind.bits]
  omega
theorem shr_i (x k : Nat) (hk : k ≤ 64) : shrK .i64 (x : Int) (k : Int) = ((x / 2 ^ k : Nat) : Int) := by
  unfold shrK
  rw [Int.toNat_natCast, Nat.min_eq_left (show k ≤ IntKind.bits .i64 from hk), Int.ofNat_fdiv]
  simp
theorem and_i {a b : Nat} (ha : a < 9223372036854775808) (hb : b < 9223372036854775808) : bits .and .i64 (a : Int) (b : Int) = ((a &&& b : Nat) : Int) := by
  have h1 : a &&& b ≤ a := Nat.and_le_left
  show IntKind.i64.wrap ((BitVec.ofInt 64 (a : Int) &&& BitVec.ofInt 64 (b : Int)).toNat : Int) = _
  have e1 : BitVec.ofInt 64 (a : Int) = BitVec.ofNat 64 a := rfl
  have e2 : BitVec.ofInt 64 (b : Int) = BitVec.ofNat 64 b := rfl
  rw [e1, e2, BitVec.toNat_and, BitVec.toNat_ofNat, BitVec.toNat_ofNat, Nat.mod_eq_of_lt (by omega), Nat.mod_eq_of_lt (by omega)]
  exact wrap_i64 ⟨by omega, by omega⟩
def setW (x : Nat) (n : Nat) : List Nat := (List.range n).filter fun k => x.testBit k
/-- The specification's list of the bits. -/
theorem set_stop {x k : Nat} (h : x < 2 ^ k) : ∀ d, setW x (k + d) = setW x k
  | 0 => rfl
  | d + 1 => by
    rw [← set_stop h d, ← Nat.add_assoc]
    unfold setW
    rw [List.range_succ, List.filter_append]
    have : x.testBit (k + d) = false := Nat.testBit_lt_two_pow (Nat.lt_of_lt_of_le h (Nat.pow_le_pow_right (by decide) (by omega)))
    simp [this]
theorem set_wh {x : Nat} (hx : x < 4294967296) : ∀ (q m k : Nat), k + m = 32 → m < q → ∃ k', whX (F_spec_l1Set_l1 (x : Int)) q (cI (setW x k), (k : Int)) = some (.inl (cI (setW x 32), k'))
  | 0, _, _, _, h => absurd h (Nat.not_lt_zero _)
  | q + 1, m, k, hm, hq => by
    have hk : IntKind.u64.wrap (k : Int) = (k : Int) := wru' (by omega)
    have hlen : (setW x k).length ≤ k := Nat.le_trans (List.length_filter_le _ _) (by simp)
    by_cases h0 : 0 < x / 2 ^ k
    · have hk32 : k < 32 := by
        rcases Nat.lt_or_ge k 32 with h | h
        · exact h
        · have : k = 32 := by omega
          subst this
          omega
      obtain ⟨m', rfl⟩ : ∃ m', m = m' + 1 := ⟨m - 1, by omega⟩
      obtain ⟨k', ih⟩ := set_wh hx q m' (k + 1) (by omega) (by omega)
      refine ⟨k', ?_⟩
      rw [← ih]
      simp only [whX]
      have : F_spec_l1Set_l1 (x : Int) (cI (setW x k), (k : Int)) = some (.nx (cI (setW x (k + 1)), ((k + 1 : Nat) : Int))) := by
        unfold F_spec_l1Set_l1
        simp only
        rw [hk, chk_t (by omega), shr_i x k (by omega), decide_eq_true (show (0 : Int) < ((x / 2 ^ k : Nat) : Int) by omega)]
        simp only [cond_true]
        have hd : x / 2 ^ k < 9223372036854775808 := Nat.lt_of_le_of_lt (Nat.div_le_self _ _) (by omega)
        rw [chk_t (by omega), show (1 : Int) = ((1 : Nat) : Int) from rfl, and_i hd (by decide), Nat.and_one_is_mod, wrap_i64 (a := (k : Int) + ((1 : Nat) : Int)) ⟨by omega, by omega⟩]
        have hbit : (((x / 2 ^ k % 2 : Nat) : Int) == ((1 : Nat) : Int)) = x.testBit k := by
          rw [Nat.testBit_eq_decide_div_mod_eq]
          rw [Bool.eq_iff_iff]
          simp only [beq_iff_eq, decide_eq_true_eq]
          omega
        rw [hbit]
        have hsucc : setW x (k + 1) = setW x k ++ (if x.testBit k then [k] else []) := by
          unfold setW
          rw [List.range_succ, List.filter_append]
          cases hb : x.testBit k <;> simp [hb]
        rw [hsucc]
        cases hb : x.testBit k with
        | false => simp [cI]
        | true =>
          simp only [cond_true]
          rw [chk_t (by rw [cI_len]; omega)]
          simp [cI]
      rw [this]
      rfl
    · refine ⟨(k : Int), ?_⟩
      have hlt : x < 2 ^ k := by
        rcases Nat.lt_or_ge x (2 ^ k) with h | h
        · exact h
        · exact absurd (Nat.div_pos h (Nat.two_pow_pos k)) h0
      have hs := set_stop hlt m
      rw [hm] at hs
      simp only [whX]
      have : F_spec_l1Set_l1 (x : Int) (cI (setW x k), (k : Int)) = some (.br (cI (setW x k), (k : Int))) := by
        unfold F_spec_l1Set_l1
        simp only
        rw [hk, chk_t (by omega), shr_i x k (by omega), decide_eq_false (show ¬ (0 : Int) < ((x / 2 ^ k : Nat) : Int) by omega)]
        rfl
      rw [this, hs]
      rfl
theorem setW_eq {x : Nat} (hx : x < 4294967296) : F_spec_l1Set (x : Int) = some (cI (setW x 32)) := by
  unfold F_spec_l1Set
  obtain ⟨k', h⟩ := set_wh hx fuel 32 0 (by omega) (fuelB (by omega))
  rw [show (([] : List Int), (0 : Int)) = (cI (setW x 0), ((0 : Nat) : Int)) from rfl, h]
  rfl

theorem or_i {a b : Nat} (ha : a < 9223372036854775808) (hb : b < 9223372036854775808) : bits .or .i64 (a : Int) (b : Int) = ((a ||| b : Nat) : Int) := by
  have h1 : a ||| b < 2 ^ 63 := Nat.or_lt_two_pow ha hb
  show IntKind.i64.wrap ((BitVec.ofInt 64 (a : Int) ||| BitVec.ofInt 64 (b : Int)).toNat : Int) = _
  have e1 : BitVec.ofInt 64 (a : Int) = BitVec.ofNat 64 a := rfl
  have e2 : BitVec.ofInt 64 (b : Int) = BitVec.ofNat 64 b := rfl
  rw [e1, e2, BitVec.toNat_or, BitVec.toNat_ofNat, BitVec.toNat_ofNat, Nat.mod_eq_of_lt (by omega), Nat.mod_eq_of_lt (by omega)]
  exact wrap_i64 ⟨by omega, by omega⟩
theorem xor_i {a b : Nat} (ha : a < 9223372036854775808) (hb : b < 9223372036854775808) : bits .xor .i64 (a : Int) (b : Int) = ((a ^^^ b : Nat) : Int) := by
  have h1 : a ^^^ b < 2 ^ 63 := Nat.xor_lt_two_pow ha hb
  show IntKind.i64.wrap ((BitVec.ofInt 64 (a : Int) ^^^ BitVec.ofInt 64 (b : Int)).toNat : Int) = _
  have e1 : BitVec.ofInt 64 (a : Int) = BitVec.ofNat 64 a := rfl
  have e2 : BitVec.ofInt 64 (b : Int) = BitVec.ofNat 64 b := rfl
  rw [e1, e2, BitVec.toNat_xor, BitVec.toNat_ofNat, BitVec.toNat_ofNat, Nat.mod_eq_of_lt (by omega), Nat.mod_eq_of_lt (by omega)]
  exact wrap_i64 ⟨by omega, by omega⟩
theorem shl_i {x k : Nat} (hk : k ≤ 60) (h : x * 2 ^ k < 9223372036854775808) : shlK .i64 (x : Int) (k : Int) = ((x * 2 ^ k : Nat) : Int) := by
  unfold shlK
  rw [Int.toNat_natCast, Nat.min_eq_left (show k ≤ IntKind.bits .i64 from by show k ≤ 64; omega)]
  have : (x : Int) * 2 ^ k = ((x * 2 ^ k : Nat) : Int) := by push_cast; rfl
  rw [this]
  exact wrap_i64 ⟨by omega, by omega⟩
theorem ps_w {a : Int} (h : -9000000000000000000 ≤ a ∧ a ≤ 9000000000000000000) : IntKind.i64.wrap a = a := wrap_i64 ⟨by omega, by omega⟩
theorem tb_mul {k q j : Nat} : (2 ^ k * q).testBit j = (decide (k ≤ j) && q.testBit (j - k)) := by
  rw [Nat.testBit_two_pow_mul]
/-- The lowest bit. -/
theorem low_nat {k q : Nat} (j : Nat) : ((2 ^ k * (2 * q + 1)).testBit j && !(2 ^ k * (2 * q + 1) - 1).testBit j) = (2 ^ k).testBit j := by
  have hp := Nat.two_pow_pos k
  have e : 2 ^ k * (2 * q + 1) - 1 = 2 ^ k * (2 * q) + (2 ^ k - 1) := by
    rw [Nat.mul_add, Nat.mul_one]; omega
  rw [e, Nat.testBit_two_pow_mul_add _ (by omega), tb_mul, Nat.testBit_two_pow, Nat.testBit_two_pow_sub_one]
  by_cases h : j < k
  · have h1 : ¬ k ≤ j := by omega
    have h2 : ¬ k = j := by omega
    simp [h, h1, h2]
  · rw [if_neg h]
    have h1 : k ≤ j := by omega
    by_cases h2 : k = j
    · subst h2
      simp
    · have h3 : ∃ i, j - k = i + 1 := ⟨j - k - 1, by omega⟩
      obtain ⟨i, hi⟩ := h3
      rw [hi, Nat.testBit_succ, Nat.testBit_succ, show (2 * q + 1) / 2 = q by omega, show 2 * q / 2 = q by omega]
      simp [h1, h2]
theorem low_bit {k q : Nat} (h : 2 ^ k * (2 * q + 1) < 4611686018427387904) : bits .and .i64 ((2 ^ k * (2 * q + 1) : Nat) : Int) (IntKind.i64.wrap (-((2 ^ k * (2 * q + 1) : Nat) : Int))) = ((2 ^ k : Nat) : Int) := by
  generalize hm : 2 ^ k * (2 * q + 1) = m at h ⊢
  have hp := Nat.two_pow_pos k
  have hm1 : 1 ≤ m := by
    rw [← hm]; exact Nat.mul_pos hp (by omega)
  have hk : 2 ^ k ≤ m := by rw [← hm]; exact Nat.le_mul_of_pos_right _ (by omega)
  rw [ps_w (by omega)]
  show IntKind.i64.wrap ((BitVec.ofInt 64 (m : Int) &&& BitVec.ofInt 64 (-(m : Int))).toNat : Int) = _
  have e1 : BitVec.ofInt 64 (m : Int) = BitVec.ofNat 64 m := rfl
  have e2 : BitVec.ofInt 64 (-(m : Int)) = ~~~ BitVec.ofNat 64 (m - 1) := by
    rw [BitVec.ofInt_neg, e1]
    apply BitVec.eq_of_toInt_eq
    rw [BitVec.toInt_not, BitVec.toInt_neg]
    have a1 : (BitVec.ofNat 64 m).toInt = (m : Int) := by
      rw [BitVec.toInt_eq_toNat_of_lt (by rw [BitVec.toNat_ofNat, Nat.mod_eq_of_lt (by omega)]; omega), BitVec.toNat_ofNat, Nat.mod_eq_of_lt (by omega)]
    have a2 : (BitVec.ofNat 64 (m - 1)).toNat = m - 1 := by rw [BitVec.toNat_ofNat, Nat.mod_eq_of_lt (by omega)]
    rw [a1, a2]
    simp [Int.bmod]
    omega
  have e3 : (BitVec.ofNat 64 m &&& ~~~ BitVec.ofNat 64 (m - 1)) = BitVec.ofNat 64 (2 ^ k) := by
    apply BitVec.eq_of_getLsbD_eq
    intro j hj
    rw [BitVec.getLsbD_and, BitVec.getLsbD_not, BitVec.getLsbD_ofNat, BitVec.getLsbD_ofNat, BitVec.getLsbD_ofNat, decide_eq_true hj]
    have := low_nat (k := k) (q := q) j
    rw [hm] at this
    simpa using this
  rw [e1, e2, e3, BitVec.toNat_ofNat, Nat.mod_eq_of_lt (by omega)]
  exact wrap_i64 ⟨by omega, by omega⟩
theorem hi_split (m k : Nat) : m / 2 ^ k = 2 * (m / 2 ^ (k + 1)) + (if m.testBit k then 1 else 0) := by
  rw [Nat.testBit_eq_decide_div_mod_eq]
  have h1 : m / 2 ^ (k + 1) = m / 2 ^ k / 2 := by rw [Nat.pow_succ, Nat.div_div_eq_div_mul]
  rw [h1]
  have := Nat.div_add_mod (m / 2 ^ k) 2
  by_cases h : m / 2 ^ k % 2 = 1
  · simp [h]; omega
  · simp [h]; omega
theorem setW_snoc (x k : Nat) : setW x (k + 1) = setW x k ++ (if x.testBit k then [k] else []) := by
  unfold setW
  rw [List.range_succ, List.filter_append]
  cases hb : x.testBit k <;> simp [hb]
theorem xor_low {k q : Nat} : (2 ^ k * (2 * q + 1)) ^^^ 2 ^ k = 2 ^ (k + 1) * q := by
  apply Nat.eq_of_testBit_eq
  intro j
  rw [Nat.testBit_xor, tb_mul, tb_mul, Nat.testBit_two_pow]
  by_cases h : j < k
  · have h1 : ¬ k ≤ j := by omega
    have h2 : ¬ k = j := by omega
    have h3 : ¬ k + 1 ≤ j := by omega
    simp [h1, h2, h3]
  · by_cases h2 : k = j
    · subst h2
      have h9 : ¬ k + 1 ≤ k := by omega
      simp [h9]
    · have h3 : k + 1 ≤ j := by omega
      have h4 : k ≤ j := by omega
      have h5 : j - k = (j - (k + 1)) + 1 := by omega
      rw [h5, Nat.testBit_succ, show (2 * q + 1) / 2 = q by omega]
      simp [h2, h3, h4]
def pwI (l : List Nat) : List Int := l.map fun (k : Nat) => ((2 ^ k : Nat) : Int)
theorem bits_wh {x : Nat} (hx : x < 4294967296) : ∀ (m k q : Nat), k + m = 32 → m < q → whX F_impl_bitsOf_l1 q (((2 ^ k * (x / 2 ^ k) : Nat) : Int), pwI (setW x k)) = some (.inl (0, pwI (setW x 32)))
  | _, _, 0, _, h => absurd h (Nat.not_lt_zero _)
  | 0, k, q + 1, hm, _ => by
    have : k = 32 := by omega
    subst this
    rw [Nat.div_eq_of_lt (by omega)]
    simp only [whX]
    rfl
  | m + 1, k, q + 1, hm, hq => by
    have hs := hi_split x k
    have hx2 := Nat.mul_div_le x (2 ^ k)
    have hlen : (pwI (setW x k)).length ≤ k := by
      unfold pwI
      rw [List.length_map]
      exact Nat.le_trans (List.length_filter_le _ _) (by simp)
    cases hb : x.testBit k with
    | false =>
      rw [hb] at hs
      have ih := bits_wh hx m (k + 1) (q + 1) (by omega) (by omega)
      rw [setW_snoc, hb] at ih
      simp only [Bool.false_eq_true, if_false, List.append_nil, Nat.add_zero] at ih hs
      rw [hs, ← Nat.mul_assoc, ← Nat.pow_succ]
      exact ih
    | true =>
      rw [hb] at hs
      simp only [if_true] at hs
      have ih := bits_wh hx m (k + 1) q (by omega) (by omega)
      rw [← ih]
      simp only [whX]
      rw [hs] at hx2
      have hlt : 2 ^ k * (2 * (x / 2 ^ (k + 1)) + 1) < 4611686018427387904 := by omega
      have hk2 : 2 ^ k ≤ 2 ^ k * (2 * (x / 2 ^ (k + 1)) + 1) := Nat.le_mul_of_pos_right _ (by omega)
      have hp := Nat.two_pow_pos k
      have : F_impl_bitsOf_l1 (((2 ^ k * (x / 2 ^ k) : Nat) : Int), pwI (setW x k)) = some (.nx (((2 ^ (k + 1) * (x / 2 ^ (k + 1)) : Nat) : Int), pwI (setW x (k + 1)))) := by
        rw [hs]
        unfold F_impl_bitsOf_l1
        simp only
        rw [low_bit hlt, xor_i (by omega) (by omega), xor_low]
        have hne : (((2 ^ k * (2 * (x / 2 ^ (k + 1)) + 1) : Nat) : Int) != 0) = true := by
          have : ((2 ^ k * (2 * (x / 2 ^ (k + 1)) + 1) : Nat) : Int) ≠ 0 := by omega
          simpa using this
        rw [hne, cond_true, chk_t (by omega), setW_snoc, hb]
        simp [pwI]
      rw [this]
      rfl
theorem bitsOf_eq {x : Nat} (hx : x < 4294967296) : F_impl_bitsOf (x : Int) = some (pwI (setW x 32)) := by
  unfold F_impl_bitsOf
  have h := bits_wh hx 32 0 fuel (by omega) (fuelB (by omega))
  rw [show 2 ^ 0 * (x / 2 ^ 0) = x by simp] at h
  rw [show (([] : List Int)) = pwI (setW x 0) from rfl, h]
  rfl
theorem ps_shl1 {v : Nat} (hv : v ≤ 40) : shlK .i64 1 (v : Int) = ((2 ^ v : Nat) : Int) ∧ 2 ^ v ≤ 2 ^ 40 := by
  have h40 : 2 ^ v ≤ 2 ^ 40 := Nat.pow_le_pow_right (by decide) hv
  refine ⟨?_, h40⟩
  rw [show (1 : Int) = ((1 : Nat) : Int) from rfl, shl_i (by omega) (by omega), Nat.one_mul]
theorem gb_t {α : Type} {b : Bool} {d : α} {x : Option α} (h : b = true) : gb b d x = x := by rw [h]; rfl
theorem gb_f {α : Type} {b : Bool} {d : α} {x : Option α} (h : b = false) : gb b d x = some d := by rw [h]; rfl
theorem pigeon : ∀ (B : Nat) (l : List Nat), l.Nodup → (∀ x ∈ l, x < B) → l.length ≤ B
  | 0, l, _, h => by
    cases l with
    | nil => simp
    | cons a l => exact absurd (h a (.head _)) (Nat.not_lt_zero _)
  | B + 1, l, hn, h => by
    by_cases hB : B ∈ l
    · have ih := pigeon B (l.erase B) (hn.erase B) (fun x hx => by
        have h1 := h x (List.mem_of_mem_erase hx)
        have h2 : x ≠ B := fun e => by
          subst e
          exact (List.Nodup.mem_erase_iff hn).1 hx |>.1 rfl
        omega)
      rw [List.length_erase_of_mem hB] at ih
      omega
    · have ih := pigeon B l hn (fun x hx => by
        have h1 := h x hx
        have h2 : x ≠ B := fun e => hB (e ▸ hx)
        omega)
      omega
structure TmOk (T : List TTerm) : Prop where
  srt : T.Pairwise fun a b => a.Mask < b.Mask
  rng : ∀ t ∈ T, 1 ≤ t.Mask ∧ t.Mask < 16777216 ∧ 1 ≤ t.Coef ∧ t.Coef ≤ 7
def cofT (T : List TTerm) (j : Nat) : Int := match T.find? (fun t => t.Mask == (j : Int)) with | some t => t.Coef | none => 0
theorem TmOk.len {T : List TTerm} (h : TmOk T) : T.length ≤ 16777216 := by
  have h1 : (T.map fun t => t.Mask.toNat).Nodup := by
    unfold List.Nodup
    rw [List.pairwise_map]
    refine h.srt.imp_of_mem ?_
    intro a b ha hb hlt
    have := h.rng a ha; have := h.rng b hb
    omega
  have := pigeon 16777216 _ h1 (fun x hx => by
    obtain ⟨t, ht, rfl⟩ := List.mem_map.1 hx
    have := h.rng t ht
    omega)
  simpa using this
theorem TmOk.nodup {T : List TTerm} (h : TmOk T) : T.Nodup := h.srt.imp (fun {a b} hlt e => by subst e; omega)
theorem TmOk.inj {T : List TTerm} (h : TmOk T) {a b : TTerm} (ha : a ∈ T) (hb : b ∈ T) (he : a.Mask = b.Mask) : a = b := by
  obtain ⟨i, hi, rfl⟩ := List.getElem_of_mem ha
  obtain ⟨j, hj, rfl⟩ := List.getElem_of_mem hb
  have hp := List.pairwise_iff_getElem.1 h.srt
  rcases Nat.lt_trichotomy i j with h' | h' | h'
  · have := hp i j hi hj h'; omega
  · subst h'; rfl
  · have := hp j i hj hi h'; omega
theorem cof_mem {T : List TTerm} (h : TmOk T) {t : TTerm} (ht : t ∈ T) {j : Nat} (hj : t.Mask = (j : Int)) : cofT T j = t.Coef := by
  unfold cofT
  cases hf : T.find? (fun t => t.Mask == (j : Int)) with
  | none =>
    have := List.find?_eq_none.1 hf t ht
    simp [hj] at this
  | some t' =>
    have h1 := List.mem_of_find?_eq_some hf
    have h2 := List.find?_some hf
    have h3 : t'.Mask = (j : Int) := by simpa using h2
    rw [h.inj h1 ht (h3.trans hj.symm)]
theorem cof_no {T : List TTerm} {j : Nat} (h : ∀ t ∈ T, t.Mask ≠ (j : Int)) : cofT T j = 0 := by
  unfold cofT
  rw [List.find?_eq_none.2 (fun t ht => by simpa using h t ht)]
theorem cof_cases {T : List TTerm} (h : TmOk T) (j : Nat) : (∃ t ∈ T, t.Mask = (j : Int) ∧ cofT T j = t.Coef) ∨ (cofT T j = 0 ∧ ∀ t ∈ T, t.Mask ≠ (j : Int)) := by
  by_cases hj : ∃ t ∈ T, t.Mask = (j : Int)
  · obtain ⟨t, ht, he⟩ := hj
    exact .inl ⟨t, ht, he, cof_mem h ht he⟩
  · have : ∀ t ∈ T, t.Mask ≠ (j : Int) := fun t ht e => hj ⟨t, ht, e⟩
    exact .inr ⟨cof_no this, this⟩
theorem cof_upd {T T' : List TTerm} (hT : TmOk T) (hT' : TmOk T') {m : Nat} {c : Int} (hne : ∀ t : TTerm, t.Mask ≠ (m : Int) → (t ∈ T' ↔ t ∈ T)) (hm : (∃ t ∈ T', t.Mask = (m : Int) ∧ t.Coef = c) ∨ (c = 0 ∧ ∀ t ∈ T', t.Mask ≠ (m : Int))) (j : Nat) :
    cofT T' j = if j = m then c else cofT T j := by
  by_cases hj : j = m
  · subst hj
    rw [if_pos rfl]
    rcases hm with ⟨t, ht, h1, h2⟩ | ⟨rfl, h⟩
    · rw [cof_mem hT' ht h1, h2]
    · exact cof_no h
  · rw [if_neg hj]
    rcases cof_cases hT j with ⟨t, ht, h1, h2⟩ | ⟨h1, h2⟩
    · rw [h2, cof_mem hT' ((hne t (by omega)).2 ht) h1]
    · rw [h1]
      exact cof_no (fun t ht e => h2 t ((hne t (by omega)).1 ht) e)
/-- Two lists of terms in order with the same coefficients are one. -/
theorem tm_ext {T T' : List TTerm} (hT : TmOk T) (hT' : TmOk T') (h : ∀ j : Nat, 1 ≤ j → cofT T j = cofT T' j) : T = T' := by
  have key : ∀ {T T' : List TTerm}, TmOk T → TmOk T' → (∀ j : Nat, 1 ≤ j → cofT T j = cofT T' j) → ∀ t ∈ T, t ∈ T' := fun {T T'} hT hT' h t ht => by
    have hr := hT.rng t ht
    obtain ⟨j, hj⟩ : ∃ j : Nat, t.Mask = (j : Int) := ⟨t.Mask.toNat, by omega⟩
    have h1 := cof_mem hT ht hj
    rw [h j (by omega)] at h1
    rcases cof_cases hT' j with ⟨t', ht', h2, h3⟩ | ⟨h2, _⟩
    · have : t = t' := by
        cases t; cases t'
        simp only at hj h2 h1 h3
        rw [TTerm.mk.injEq]
        exact ⟨by omega, by omega⟩
      rw [this]; exact ht'
    · omega
  have hp : T.Perm T' := (List.perm_ext_iff_of_nodup hT.nodup hT'.nodup).2 fun t => ⟨key hT hT' h t, key hT' hT (fun j hj => (h j hj).symm) t⟩
  exact List.Perm.eq_of_pairwise (le := fun a b : TTerm => a.Mask < b.Mask) (fun a b _ _ h1 h2 => by omega) hT.srt hT'.srt hp
def sf (ph : Int) (T : List TTerm) (j : Nat) : Int := if j = 0 then ph else cofT T j
theorem k8 {k : Int} (h : -1000000 ≤ k ∧ k ≤ 1000000) : Int.tmod (IntKind.i64.wrap (Int.tmod k 8 + 8)) 8 = k % 8 := by
  have h1 : -8 < Int.tmod k 8 ∧ Int.tmod k 8 < 8 := ⟨by have := Int.lt_tmod_of_pos k (show (0 : Int) < 8 by decide); omega, Int.tmod_lt_of_pos k (by decide)⟩
  rw [ps_w (by omega)]
  have h2 := Int.tmod_add_mul_tdiv k 8
  rw [Int.tmod_eq_emod_of_nonneg (by omega)]
  omega
theorem k8' {k : Int} (h : 0 ≤ k ∧ k ≤ 1000000) : Int.tmod (IntKind.i64.wrap k) 8 = k % 8 := by
  rw [ps_w (by omega), Int.tmod_eq_emod_of_nonneg (by omega)]
theorem at_loop {ph : Int} {T A C : List TTerm} {m : Int} (hTA : T = A ++ C) (hA : ∀ t ∈ A, t.Mask < m) (hC : ∀ t, C.head? = some t → m ≤ t.Mask) (hl : T.length ≤ 16777216) : ∀ (d i q : Nat), i + d = A.length → d < q → whX (F_spec_l21Sum_add_l1 (Tl21Sum.mk ph T) m) q (i : Int) = some (.inl (A.length : Int))
  | _, _, 0, _, h => absurd h (Nat.not_lt_zero _)
  | 0, i, q + 1, hi, _ => by
    have : i = A.length := by omega
    subst this
    simp only [whX]
    have e : F_spec_l21Sum_add_l1 (Tl21Sum.mk ph T) m (A.length : Int) = some (.br (A.length : Int)) := by
      unfold F_spec_l21Sum_add_l1
      simp only
      cases hc : C with
      | nil =>
        rw [decide_eq_false (show ¬ (A.length : Int) < (T.length : Int) by rw [hTA, hc]; simp)]
        rfl
      | cons c C' =>
        rw [decide_eq_true (show (A.length : Int) < (T.length : Int) by rw [hTA, hc]; simp; omega), getI_nat]
        have hg : T[A.length]? = some c := by rw [hTA, hc]; simp
        rw [hg]
        simp only [gb, cond_true, Option.bind_some, Bool.true_and]
        rw [decide_eq_false (show ¬ c.Mask < m by have := hC c (by rw [hc]; rfl); omega)]
        rfl
    rw [e]; rfl
  | d + 1, i, q + 1, hi, hq => by
    have ih := at_loop (ph := ph) hTA hA hC hl d (i + 1) q (by omega) (by omega)
    rw [← ih]
    simp only [whX]
    have hia : i < A.length := by omega
    have hTl : T.length = A.length + C.length := by rw [hTA]; simp
    have e : F_spec_l21Sum_add_l1 (Tl21Sum.mk ph T) m (i : Int) = some (.nx ((i + 1 : Nat) : Int)) := by
      unfold F_spec_l21Sum_add_l1
      simp only
      rw [decide_eq_true (show (i : Int) < (T.length : Int) by omega), getI_nat]
      have hg : T[i]? = some A[i] := by rw [hTA, List.getElem?_append_left hia, List.getElem?_eq_getElem hia]
      rw [hg]
      simp only [gb, cond_true, Option.bind_some, Bool.true_and]
      rw [decide_eq_true (hA _ (List.getElem_mem hia)), ps_w (by omega)]
      rfl
    rw [e]; rfl
theorem tm_ins {A C : List TTerm} {m c : Int} (h : TmOk (A ++ C)) (hA : ∀ t ∈ A, t.Mask < m) (hC : ∀ t ∈ C, m < t.Mask) (hm : 1 ≤ m ∧ m < 16777216) (hc : 1 ≤ c ∧ c ≤ 7) : TmOk (A ++ TTerm.mk m c :: C) := by
  obtain ⟨h1, h2⟩ := h
  rw [List.pairwise_append] at h1
  refine ⟨?_, fun t ht => ?_⟩
  · rw [List.pairwise_append, List.pairwise_cons]
    refine ⟨h1.1, ⟨fun t ht => hC t ht, h1.2.1⟩, fun a ha b hb => ?_⟩
    rcases List.mem_cons.1 hb with rfl | hb
    · exact hA a ha
    · exact h1.2.2 a ha b hb
  · rcases List.mem_append.1 ht with ht | ht
    · exact h2 t (List.mem_append_left _ ht)
    · rcases List.mem_cons.1 ht with rfl | ht
      · exact ⟨hm.1, hm.2, hc.1, hc.2⟩
      · exact h2 t (List.mem_append_right _ ht)
theorem tm_sub {T T' : List TTerm} (h : TmOk T) (hs : T'.Sublist T) : TmOk T' := ⟨h.srt.sublist hs, fun t ht => h.rng t (hs.subset ht)⟩
theorem tm_split (m : Int) : ∀ {T : List TTerm}, (T.Pairwise fun a b => a.Mask < b.Mask) → ∃ A C, T = A ++ C ∧ (∀ t ∈ A, t.Mask < m) ∧ ∀ t ∈ C, m ≤ t.Mask
  | [], _ => ⟨[], [], rfl, (fun _ h => by cases h), (fun _ h => by cases h)⟩
  | x :: T, h => by
    obtain ⟨h1, h2⟩ := List.pairwise_cons.1 h
    by_cases hx : x.Mask < m
    · obtain ⟨A, C, rfl, hA, hC⟩ := tm_split m h2
      refine ⟨x :: A, C, rfl, fun t ht => ?_, hC⟩
      rcases List.mem_cons.1 ht with rfl | ht
      · exact hx
      · exact hA t ht
    · refine ⟨[], x :: T, rfl, (fun _ h => by cases h), fun t ht => ?_⟩
      rcases List.mem_cons.1 ht with rfl | ht
      · omega
      · have := h1 t ht; omega
theorem s_add {ph : Int} {T : List TTerm} (hp : 0 ≤ ph ∧ ph ≤ 7) (hT : TmOk T) {m : Nat} (hm : m < 16777216) {k : Int} (hk : -1000 ≤ k ∧ k ≤ 1000) :
    ∃ ph' T', F_spec_l21Sum_add (Tl21Sum.mk ph T) (m : Int) k = some (Tl21Sum.mk ph' T') ∧ (0 ≤ ph' ∧ ph' ≤ 7) ∧ TmOk T' ∧ ∀ j, sf ph' T' j = if j = m then (sf ph T m + k) % 8 else sf ph T j := by
  have hlen := hT.len
  unfold F_spec_l21Sum_add
  simp only
  rw [k8 (by omega)]
  by_cases h0 : m = 0
  · subst h0
    rw [show (((0 : Nat) : Int) == 0) = true from rfl, cond_true, k8' (by omega)]
    refine ⟨_, T, rfl, by omega, hT, fun j => ?_⟩
    unfold sf
    by_cases hj : j = 0
    · subst hj; simp only [if_true]; omega
    · simp [hj]
  · rw [show ((m : Int) == 0) = false by simpa using h0, cond_false]
    have sfm : ∀ {ph : Int} {T : List TTerm}, sf ph T m = cofT T m := fun {ph T} => by unfold sf; rw [if_neg h0]
    by_cases hk0 : k % 8 = 0
    · rw [hk0, show ((0 : Int) == 0) = true from rfl, cond_true]
      refine ⟨ph, T, rfl, hp, hT, fun j => ?_⟩
      by_cases hj : j = m
      · subst hj
        rw [if_pos rfl, sfm]
        rcases cof_cases hT j with ⟨t, ht, h1, h2⟩ | ⟨h1, h2⟩
        · have := hT.rng t ht; omega
        · omega
      · rw [if_neg hj]
    · have hkb : 1 ≤ k % 8 ∧ k % 8 ≤ 7 := by omega
      rw [show ((k % 8) == 0) = false by simpa using hk0, cond_false]
      have hkk : ∀ a : Int, (a + k) % 8 = (a + k % 8) % 8 := fun a => by omega
      generalize k % 8 = k' at hkb hkk ⊢
      obtain ⟨A, C, rfl, hA, hC⟩ := tm_split (m : Int) hT.srt
      have hAC : (A ++ C).length = A.length + C.length := List.length_append
      have hloop := at_loop (ph := ph) (T := A ++ C) rfl hA (fun t ht => hC t (List.mem_of_mem_head? ht)) hlen A.length 0 fuel (by omega) (fuelB (by omega))
      rw [show ((0 : Nat) : Int) = (0 : Int) from rfl] at hloop
      rw [hloop]
      simp only [orR, Option.bind_some]
      have tA : List.take (A.length : Int).toNat (A ++ C) = A := by rw [Int.toNat_natCast, List.take_left]
      have dA : List.drop (A.length : Int).toNat (A ++ C) = C := by rw [Int.toNat_natCast, List.drop_left]
      have hp2 := List.pairwise_append.1 hT.srt
      -- the list with the term laid in
      have lay : (∀ t ∈ C, (m : Int) < t.Mask) → ∃ ph' T', (chk ((0 : Int) ≤ (A.length : Int) ∧ (A.length : Int) ≤ ((A ++ C).length : Int)) <| chk (0 + ((A ++ C).length - (A.length : Int).toNat) ≤ 1099511627776) <| chk ((0 : Int) ≤ (A.length : Int) ∧ (A.length : Int) ≤ ((A ++ C).length : Int)) <| chk (0 + (A.length : Int).toNat ≤ 1099511627776) <|
          chk (((List.take (A.length : Int).toNat (A ++ C)).length) + 1 ≤ 1099511627776) <| chk ((((List.take (A.length : Int).toNat (A ++ C)) ++ [(TTerm.mk (m : Int) k')]).length) + ((List.drop (A.length : Int).toNat (A ++ C)).length) ≤ 1099511627776) <|
          some ((Tl21Sum.mk ph (((List.take (A.length : Int).toNat (A ++ C)) ++ [(TTerm.mk (m : Int) k')]) ++ (List.drop (A.length : Int).toNat (A ++ C)))))) = some (Tl21Sum.mk ph' T') ∧ (0 ≤ ph' ∧ ph' ≤ 7) ∧ TmOk T' ∧ ∀ j, sf ph' T' j = if j = m then (sf ph (A ++ C) m + k) % 8 else sf ph (A ++ C) j := fun hCm => by
        rw [tA, dA, chk_t (by omega), chk_t (by omega), chk_t (by omega), chk_t (by omega), chk_t (by omega), chk_t (by rw [List.length_append]; simp only [List.length_singleton]; omega)]
        have hT' : TmOk (A ++ TTerm.mk (m : Int) k' :: C) := tm_ins hT hA hCm (by omega) hkb
        have hno : ∀ t ∈ A ++ C, t.Mask ≠ (m : Int) := fun t ht => by
          rcases List.mem_append.1 ht with ht | ht
          · have := hA t ht; omega
          · have := hCm t ht; omega
        refine ⟨ph, A ++ TTerm.mk (m : Int) k' :: C, by rw [List.append_assoc]; rfl, hp, hT', fun j => ?_⟩
        have hu := cof_upd hT hT' (m := m) (c := k') (fun t ht => by
          simp only [List.mem_append, List.mem_cons]
          constructor
          · rintro (h | rfl | h)
            · exact .inl h
            · exact absurd rfl ht
            · exact .inr h
          · rintro (h | h)
            · exact .inl h
            · exact .inr (.inr h)) (.inl ⟨TTerm.mk (m : Int) k', by simp, rfl, rfl⟩) j
        rw [sfm, cof_no hno, hkk]
        unfold sf
        by_cases hj0 : j = 0
        · subst hj0
          rw [if_pos rfl, if_neg (fun e => h0 e.symm), if_pos rfl]
        · rw [if_neg hj0, if_neg hj0, hu]
          by_cases hj : j = m
          · rw [if_pos hj, if_pos hj]; omega
          · rw [if_neg hj, if_neg hj]
      have hcc : C = [] ∨ ∃ c C', C = c :: C' := by
        cases C with
        | nil => exact .inl rfl
        | cons c C' => exact .inr ⟨c, C', rfl⟩
      rcases hcc with hc | ⟨c, C', hc⟩
      · rw [decide_eq_false (show ¬ (A.length : Int) < ((A ++ C).length : Int) by rw [hAC, hc]; simp), gb_f rfl]
        simp only [Option.bind_some, Bool.false_and, cond_false]
        exact lay (fun t ht => by rw [hc] at ht; cases ht)
      · have hlC : C.length = C'.length + 1 := by rw [hc]; rfl
        rw [decide_eq_true (show (A.length : Int) < ((A ++ C).length : Int) by omega), gb_t rfl, getI_nat]
        have hg : (A ++ C)[A.length]? = some c := by rw [hc]; simp
        rw [hg]
        simp only [Option.bind_some, Bool.true_and]
        have hcC : c ∈ C := by rw [hc]; exact .head _
        have hcr := hT.rng c (List.mem_append_right _ hcC)
        have hcm := hC c hcC
        by_cases heq : c.Mask = (m : Int)
        · rw [show (c.Mask == (m : Int)) = true by simpa using heq, cond_true]
          have h1 : IntKind.i64.wrap ((A.length : Int) + 1) = ((A.length + 1 : Nat) : Int) := by rw [ps_w (by omega)]; omega
          have dA1 : List.drop (((A.length + 1 : Nat) : Int)).toNat (A ++ C) = C' := by
            rw [Int.toNat_natCast, hc, List.drop_append, List.drop_eq_nil_of_le (by omega), Nat.add_sub_cancel_left]; rfl
          rw [h1, dA1, tA, k8' (by omega), chk_t (by omega), chk_t (by omega), chk_t (by omega), chk_t (by omega)]
          have hC'm : ∀ t ∈ C', (m : Int) < t.Mask := fun t ht => by
            have := hp2.2.1
            rw [hc, List.pairwise_cons] at this
            have := this.1 t ht
            omega
          have hsub : (A ++ C').Sublist (A ++ C) := by rw [hc]; exact (List.Sublist.refl A).append (List.sublist_cons_self c C')
          have hT1 := tm_sub hT hsub
          have hmem : ∀ t : TTerm, t.Mask ≠ (m : Int) → (t ∈ A ++ C' ↔ t ∈ A ++ C) := fun t ht => by
            rw [hc]
            simp only [List.mem_append, List.mem_cons]
            constructor
            · rintro (h | h)
              · exact .inl h
              · exact .inr (.inr h)
            · rintro (h | rfl | h)
              · exact .inl h
              · exact absurd heq ht
              · exact .inr h
          have hno : ∀ t ∈ A ++ C', t.Mask ≠ (m : Int) := fun t ht => by
            rcases List.mem_append.1 ht with ht | ht
            · have := hA t ht; omega
            · have := hC'm t ht; omega
          have hcof : cofT (A ++ C) m = c.Coef := cof_mem hT (List.mem_append_right _ hcC) heq
          have fin_ : ∀ {T' : List TTerm}, TmOk T' → (∀ j, cofT T' j = if j = m then (k' + c.Coef) % 8 else cofT (A ++ C) j) → ∀ j, sf ph T' j = if j = m then (sf ph (A ++ C) m + k) % 8 else sf ph (A ++ C) j := fun {T'} hT' hu j => by
            rw [sfm, hcof, hkk]
            unfold sf
            by_cases hj0 : j = 0
            · subst hj0
              rw [if_pos rfl, if_neg (fun e => h0 e.symm), if_pos rfl]
            · rw [if_neg hj0, if_neg hj0, hu]
              by_cases hj : j = m
              · rw [if_pos hj, if_pos hj]; omega
              · rw [if_neg hj, if_neg hj]
          by_cases hpos : 0 < (k' + c.Coef) % 8
          · rw [decide_eq_true hpos, cond_true, chk_t (by omega)]
            simp only [Option.bind_some]
            rw [chk_t (by rw [List.length_append]; simp only [List.length_singleton]; omega)]
            have hT' : TmOk (A ++ TTerm.mk (m : Int) ((k' + c.Coef) % 8) :: C') := tm_ins hT1 hA hC'm (by omega) (by omega)
            refine ⟨ph, _, by rw [List.append_assoc]; rfl, hp, hT', fin_ hT' ?_⟩
            refine cof_upd hT hT' (fun t ht => ?_) (.inl ⟨TTerm.mk (m : Int) ((k' + c.Coef) % 8), by simp, rfl, rfl⟩)
            rw [← hmem t ht]
            simp only [List.mem_append, List.mem_cons]
            constructor
            · rintro (h | rfl | h)
              · exact .inl h
              · exact absurd rfl ht
              · exact .inr h
            · rintro (h | h)
              · exact .inl h
              · exact .inr (.inr h)
          · rw [decide_eq_false hpos, cond_false]
            simp only [Option.bind_some]
            rw [chk_t (by omega)]
            exact ⟨ph, _, rfl, hp, hT1, fin_ hT1 (cof_upd hT hT1 hmem (.inr ⟨by omega, hno⟩))⟩
        · rw [show (c.Mask == (m : Int)) = false by simpa using heq, cond_false]
          refine lay (fun t ht => ?_)
          rw [hc] at ht
          rcases List.mem_cons.1 ht with rfl | ht
          · omega
          · have := hp2.2.1
            rw [hc, List.pairwise_cons] at this
            have := this.1 t ht
            omega
structure MpOk (l : List (Int × Int)) : Prop where
  key : l.Pairwise fun a b => a.1 ≠ b.1
  rng : ∀ q ∈ l, 0 ≤ q.1 ∧ q.1 < 16777216 ∧ 0 ≤ q.2 ∧ q.2 ≤ 7
theorem MpOk.len {l : List (Int × Int)} (h : MpOk l) : l.length ≤ 16777216 := by
  have h1 : (l.map fun q => q.1.toNat).Nodup := by
    unfold List.Nodup
    rw [List.pairwise_map]
    refine h.key.imp_of_mem ?_
    intro a b ha hb hne
    have := h.rng a ha; have := h.rng b hb
    omega
  have := pigeon 16777216 _ h1 (fun x hx => by
    obtain ⟨t, ht, rfl⟩ := List.mem_map.1 hx
    have := h.rng t ht
    omega)
  simpa using this
theorem mfd_put {l : List (Int × Int)} {a b j : Int} : mfd (mput l a b) j = if j = a then some b else mfd l j := by
  induction l with
  | nil => unfold mput mfd mfd; by_cases h : a = j <;> simp [h, eq_comm]
  | cons q l ih =>
    obtain ⟨x, y⟩ := q
    unfold mput
    by_cases hx : x = a
    · rw [if_pos hx]
      subst hx
      unfold mfd
      by_cases h : x = j
      · simp [h]
      · have h' : ¬ j = x := fun e => h e.symm
        simp [h, h']
    · rw [if_neg hx]
      unfold mfd
      by_cases h : x = j
      · subst h; simp [hx]
      · simp only [if_neg h]; exact ih
theorem mgt_put {l : List (Int × Int)} {a b j : Int} : mgt (mput l a b) j 0 = if j = a then b else mgt l j 0 := by
  unfold mgt
  rw [mfd_put]
  split <;> rfl
theorem mput_mem {l : List (Int × Int)} {a b : Int} {q : Int × Int} (h : q ∈ mput l a b) : q = (a, b) ∨ q ∈ l := by
  induction l with
  | nil => unfold mput at h; simp at h; exact .inl h
  | cons x l ih =>
    obtain ⟨x, y⟩ := x
    unfold mput at h
    split at h
    · rcases List.mem_cons.1 h with h | h
      · exact .inl h
      · exact .inr (.tail _ h)
    · rcases List.mem_cons.1 h with h | h
      · exact .inr (by rw [h]; exact .head _)
      · exact (ih h).imp id (.tail _)
theorem mput_key {l : List (Int × Int)} {a b : Int} (h : l.Pairwise fun p q => p.1 ≠ q.1) : (mput l a b).Pairwise fun p q => p.1 ≠ q.1 := by
  induction l with
  | nil => unfold mput; simp
  | cons x l ih =>
    obtain ⟨x, y⟩ := x
    obtain ⟨h1, h2⟩ := List.pairwise_cons.1 h
    unfold mput
    split
    · rename_i hx
      subst hx
      exact List.pairwise_cons.2 ⟨h1, h2⟩
    · rename_i hx
      refine List.pairwise_cons.2 ⟨fun q hq => ?_, ih h2⟩
      rcases mput_mem hq with rfl | hq
      · exact hx
      · exact h1 q hq
theorem mgt_mem {l : List (Int × Int)} (h : l.Pairwise fun p q => p.1 ≠ q.1) {a b : Int} (hq : (a, b) ∈ l) : mgt l a 0 = b := by
  obtain ⟨j, hj⟩ := List.getElem?_of_mem hq
  unfold mgt
  rw [mfd_at hj h]; rfl
theorem mgt_no {l : List (Int × Int)} {a : Int} (h : ∀ q ∈ l, q.1 ≠ a) : mgt l a 0 = 0 := by
  unfold mgt
  rw [mfd_none h]; rfl
theorem mgt_rng {l : List (Int × Int)} (h : MpOk l) (a : Int) : 0 ≤ mgt l a 0 ∧ mgt l a 0 ≤ 7 := by
  by_cases hq : ∃ q ∈ l, q.1 = a
  · obtain ⟨⟨x, y⟩, hm, rfl⟩ := hq
    rw [mgt_mem h.key hm]
    have := h.rng _ hm
    exact ⟨this.2.2.1, this.2.2.2⟩
  · rw [mgt_no (fun q hm e => hq ⟨q, hm, e⟩)]; decide
theorem i_add {l : List (Int × Int)} (h : MpOk l) {m : Nat} (hm : m < 16777216) {k : Int} (hk : -1000 ≤ k ∧ k ≤ 1000) :
    ∃ l', F_impl_polynomial_add l (m : Int) k = some l' ∧ MpOk l' ∧ ∀ j : Nat, mgt l' (j : Int) 0 = if j = m then (mgt l (m : Int) 0 + k) % 8 else mgt l (j : Int) 0 := by
  have hr := mgt_rng h (m : Int)
  unfold F_impl_polynomial_add
  rw [ps_w (a := mgt l (m : Int) 0 + k) (by omega), k8 (by omega)]
  refine ⟨_, rfl, ⟨mput_key h.key, fun q hq => ?_⟩, fun j => ?_⟩
  · rcases mput_mem hq with rfl | hq
    · simp only; omega
    · exact h.rng q hq
  · rw [mgt_put]
    by_cases hj : j = m
    · subst hj; simp
    · rw [if_neg hj, if_neg (show ¬ (j : Int) = (m : Int) by omega)]
/-- The terms of a map. -/
theorem terms_ok {l : List (Int × Int)} (h : MpOk l) : F_impl_polynomial_terms l = some (termsOf l) ∧ TmOk (termsOf l) ∧ ∀ j : Nat, 1 ≤ j → cofT (termsOf l) j = mgt l (j : Int) 0 := by
  have hl := h.len
  have hmem : ∀ t : TTerm, t ∈ termsOf l ↔ (t.Mask, t.Coef) ∈ l ∧ 0 < t.Mask ∧ 0 < t.Coef := fun t => by
    unfold termsOf
    rw [(List.mergeSort_perm _ _).mem_iff, List.mem_filterMap]
    constructor
    · rintro ⟨q, hq, he⟩
      unfold tmF at he
      split at he
      · rename_i hp
        cases he
        exact ⟨hq, hp.1, hp.2⟩
      · cases he
    · rintro ⟨hq, h1, h2⟩
      exact ⟨_, hq, by unfold tmF; rw [if_pos ⟨h1, h2⟩]⟩
  have hkey : ((l.filterMap tmF).Pairwise fun a b => a.Mask ≠ b.Mask) := by
    rw [List.pairwise_filterMap]
    refine h.key.imp fun {a b} hab x hx y hy => ?_
    unfold tmF at hx hy
    split at hx <;> split at hy
    · cases hx; cases hy; exact hab
    · cases hy
    · cases hx
    · cases hx
  have hT : TmOk (termsOf l) := by
    refine ⟨?_, fun t ht => ?_⟩
    · have h1 : (termsOf l).Pairwise fun a b => a.Mask ≠ b.Mask := ((List.mergeSort_perm (l.filterMap tmF) _).symm.pairwise_iff (fun {a b} h => Ne.symm h)).1 hkey
      have h2 : (termsOf l).Pairwise fun a b => decide (a.Mask ≤ b.Mask) = true := List.pairwise_mergeSort (fun a b c h1 h2 => by simp at *; omega) (fun a b => by simp; omega) _
      exact (h1.and h2).imp (fun {a b} hab => by have := hab.2; simp at this; have := hab.1; omega)
    · obtain ⟨h1, h2, h3⟩ := (hmem t).1 ht
      have := h.rng _ h1
      exact ⟨by omega, this.2.1, by omega, this.2.2.2⟩
  refine ⟨?_, hT, fun j hj => ?_⟩
  · unfold F_impl_polynomial_terms
    rw [chk_t ⟨by omega, fun q hq => by have := (h.rng q hq).2.1; omega⟩]
  · rcases cof_cases hT j with ⟨t, ht, h1, h2⟩ | ⟨h1, h2⟩
    · rw [h2, ← h1, mgt_mem h.key ((hmem t).1 ht).1]
    · rw [h1]
      by_cases hq : ∃ q ∈ l, q.1 = (j : Int)
      · obtain ⟨⟨x, y⟩, hm, he⟩ := hq
        simp only at he
        subst he
        rw [mgt_mem h.key hm]
        have := h.rng _ hm
        by_cases hy : 0 < y
        · exact absurd rfl (h2 (TTerm.mk (j : Int) y) ((hmem _).2 ⟨hm, by simp only; omega, hy⟩))
        · simp only at this; omega
      · exact (mgt_no (fun q hm e => hq ⟨q, hm, e⟩)).symm

structure Rl (e : Nat → Nat) (D : Nat → Prop) (l : List (Int × Int)) (ph : Int) (T : List TTerm) : Prop where
  ran : 0 ≤ ph ∧ ph ≤ 7
  tm : TmOk T
  mp : MpOk l
  eq : ∀ j : Nat, D j → sf ph T (e j) = mgt l (j : Int) 0
  key : ∀ q ∈ l, D q.1.toNat
structure EM (e : Nat → Nat) (D : Nat → Prop) (f : Nat → Nat) : Prop where
  inj : ∀ a b, D a → D b → e a = e b → a = b
  bd : ∀ a, a < 16777216 → e a < 16777216
  or : ∀ a b, D a → D b → D (a ||| b) ∧ e (a ||| b) = e a ||| e b
  two : ∀ k, D (2 ^ k) → e (2 ^ k) = 2 ^ f k
  le : ∀ k, f k ≤ k
theorem rl_add {e : Nat → Nat} {D : Nat → Prop} {f : Nat → Nat} (E : EM e D f) {l : List (Int × Int)} {ph : Int} {T : List TTerm} (h : Rl e D l ph T) {m : Nat} (hD : D m) (hm : m < 16777216) {k : Int} (hk : -1000 ≤ k ∧ k ≤ 1000) :
    ∃ ph' T' l', F_spec_l21Sum_add (Tl21Sum.mk ph T) ((e m : Nat) : Int) k = some (Tl21Sum.mk ph' T') ∧ F_impl_polynomial_add l (m : Int) k = some l' ∧ Rl e D l' ph' T' := by
  obtain ⟨ph', T', h1, h2, h3, h4⟩ := s_add h.ran h.tm (E.bd m hm) hk
  obtain ⟨l', g1, g2, g3⟩ := i_add h.mp hm hk
  refine ⟨ph', T', l', h1, g1, ⟨h2, h3, g2, fun j hj => ?_, fun q hq => ?_⟩⟩
  · rw [h4, g3, h.eq m hD, h.eq j hj]
    by_cases hjm : j = m
    · subst hjm; simp
    · rw [if_neg hjm, if_neg (fun he => hjm (E.inj j m hj hD he))]
  · have hq' := hq
    unfold F_impl_polynomial_add at g1
    rw [← Option.some.inj g1] at hq
    rcases mput_mem hq with rfl | hq
    · simpa using hD
    · exact h.key q hq
theorem forN2 {σ τ : Type} {f : Nat → σ → Option σ} {g : Nat → τ → Option τ} (P : σ → τ → Prop) (n : Nat) (step : ∀ i, i < n → ∀ s t, P s t → ∃ s' t', f i s = some s' ∧ g i t = some t' ∧ P s' t') :
    ∀ (d i : Nat), i + d ≤ n → ∀ s t, P s t → ∃ s' t', forN f d i s = some s' ∧ forN g d i t = some t' ∧ P s' t'
  | 0, _, _, s, t, h => ⟨s, t, rfl, rfl, h⟩
  | d + 1, i, hi, s, t, h => by
    obtain ⟨s1, t1, e1, e2, h1⟩ := step i (by omega) s t h
    obtain ⟨s2, t2, e3, e4, h2⟩ := forN2 P n step d (i + 1) (by omega) s1 t1 h1
    refine ⟨s2, t2, ?_, ?_, h2⟩
    · simp only [forN, e1, Option.bind_some]; exact e3
    · simp only [forN, e2, Option.bind_some]; exact e4
theorem or24 {a b : Nat} (ha : a < 16777216) (hb : b < 16777216) : a ||| b < 16777216 := Nat.or_lt_two_pow (n := 24) ha hb
theorem two24 {k : Nat} (h : k < 24) : 2 ^ k < 16777216 := by
  have : (2 : Nat) ^ k ≤ 2 ^ 23 := Nat.pow_le_pow_right (by decide) (by omega)
  omega
theorem pw_at {S : List Nat} {i s : Nat} (h : S[i]? = some s) : getI (pwI S) (i : Int) = some ((2 ^ s : Nat) : Int) := by
  rw [getI_nat]; unfold pwI; rw [List.getElem?_map, h]; rfl
theorem pw_take {S : List Nat} {i j s : Nat} (hj : j < i) (h : S[j]? = some s) : getI (List.take i (pwI S)) (j : Int) = some ((2 ^ s : Nat) : Int) := by
  rw [getI_nat, List.getElem?_take_of_lt hj, ← getI_nat]; exact pw_at h
theorem cf_at {S : List Nat} {f : Nat → Nat} {i s : Nat} (h : S[i]? = some s) : getI (cI (S.map f)) (i : Int) = some ((f s : Nat) : Int) := by
  exact cI_get (by rw [List.getElem?_map, h]; rfl)
theorem cf_take {S : List Nat} {f : Nat → Nat} {i j s : Nat} (hj : j < i) (h : S[j]? = some s) : getI (List.take i (cI (S.map f))) (j : Int) = some ((f s : Nat) : Int) := by
  rw [getI_nat, List.getElem?_take_of_lt hj, ← getI_nat]; exact cf_at h
/-- The two multiplications of a parity. -/
theorem rl_times {e : Nat → Nat} {D : Nat → Prop} {f : Nat → Nat} (E : EM e D f) {l : List (Int × Int)} {ph : Int} {T : List TTerm} (h : Rl e D l ph T) {rest : Nat} (hD : D rest) (hm : rest < 16777216) {k : Int} (hk : -20 ≤ k ∧ k ≤ 20)
    {S : List Nat} (hS : ∀ s ∈ S, s < 24 ∧ D (2 ^ s)) (hSl : S.length ≤ 1000) {a b : TAffine} (ha : F_impl_bitsOf a.Mask = some (pwI S)) (hb : F_spec_l1Set b.Mask = some (cI (S.map f))) (hab : b.Turn = a.Turn) :
    ∃ ph' T' l', F_spec_l21Sum_times (Tl21Sum.mk ph T) ((e rest : Nat) : Int) k b = some (Tl21Sum.mk ph' T') ∧ F_impl_polynomial_expand l k a (rest : Int) = some l' ∧ Rl e D l' ph' T' := by
  let P : (Int × List TTerm) → List (Int × Int) → Prop := fun s t => Rl e D t s.1 s.2
  have sh : ∀ {s : Nat}, s ∈ S → D (2 ^ s) ∧ 2 ^ s < 16777216 ∧ e (2 ^ s) = 2 ^ f s ∧ IntKind.u64.wrap ((f s : Nat) : Int) = ((f s : Nat) : Int) ∧ shlK .i64 1 ((f s : Nat) : Int) = ((2 ^ f s : Nat) : Int) := fun {s} hs => by
    obtain ⟨h1, h2⟩ := hS s hs
    have := E.le s
    exact ⟨h2, two24 h1, E.two s h2, wrapU (by omega), (ps_shl1 (by omega)).1⟩
  -- a mask with one bit more
  have orr : ∀ {m s : Nat}, s ∈ S → D m → m < 16777216 → D (m ||| 2 ^ s) ∧ m ||| 2 ^ s < 16777216 ∧ bits .or .i64 (m : Int) ((2 ^ s : Nat) : Int) = ((m ||| 2 ^ s : Nat) : Int) ∧ bits .or .i64 ((e m : Nat) : Int) ((2 ^ f s : Nat) : Int) = ((e (m ||| 2 ^ s) : Nat) : Int) := fun {m s} hs h1 h2 => by
    obtain ⟨g1, g2, g3, _, _⟩ := sh hs
    obtain ⟨o1, o2⟩ := E.or m (2 ^ s) h1 g1
    have b1 := E.bd m h2
    have b2 := E.bd (2 ^ s) g2
    rw [g3] at b2 o2
    refine ⟨o1, or24 h2 g2, or_i (by omega) (by omega), ?_⟩
    rw [or_i (by omega) (by omega), o2]
  have chN : ∀ {α : Type} (a : Nat) (x : Option α), chk ((0 : Int) ≤ (a : Int)) x = x := fun a x => chk_t (by omega)
  have core : ∀ (k : Int) (ph : Int) (T : List TTerm) (l : List (Int × Int)), (-20 ≤ k ∧ k ≤ 20) → Rl e D l ph T →
      ∃ s' t', forN (F_spec_l21Sum_times_l1 (cI (S.map f)) ((e rest : Nat) : Int) k) S.length 0 (ph, T) = some s' ∧ forN (F_impl_polynomial_expand_l1 (pwI S) (rest : Int) k) S.length 0 l = some t' ∧ P s' t' := fun k ph T l hk h => by
    refine forN2 P S.length (fun i hi s t hst => ?_) S.length 0 (by omega) (ph, T) l h
    have gi := List.getElem?_eq_getElem hi
    have mi : S[i] ∈ S := List.getElem_mem hi
    generalize S[i] = x at gi mi
    obtain ⟨_, _, _, x4, x5⟩ := sh mi
    obtain ⟨o1, o2, o3, o4⟩ := orr mi hD hm
    obtain ⟨ph1, T1, l1, a1, a2, a3⟩ := rl_add E hst o1 o2 (k := k) (by omega)
    -- the second level
    have lev2 : ∃ s' t', forN (F_spec_l21Sum_times_l2 i (cI (S.map f)) ((f x : Nat) : Int) ((e rest : Nat) : Int) k) i 0 (ph1, T1) = some s' ∧ forN (F_impl_polynomial_expand_l2 i (pwI S) (rest : Int) ((2 ^ x : Nat) : Int) k) i 0 l1 = some t' ∧ P s' t' := by
      refine forN2 P i (fun i1 hi1 s t hst => ?_) i 0 (by omega) (ph1, T1) l1 a3
      have gi1 := List.getElem?_eq_getElem (show i1 < S.length by omega)
      have mi1 : S[i1] ∈ S := List.getElem_mem _
      generalize S[i1] = x1 at gi1 mi1
      obtain ⟨_, _, _, y4, y5⟩ := sh mi1
      obtain ⟨p1, p2, p3, p4⟩ := orr mi1 o1 o2
      obtain ⟨ph2, T2, l2, b1, b2, b3⟩ := rl_add E hst p1 p2 (k := -2 * k) (by omega)
      have lev3 : ∃ s' t', forN (F_spec_l21Sum_times_l3 i1 (cI (S.map f)) ((f x : Nat) : Int) ((f x1 : Nat) : Int) ((e rest : Nat) : Int) k) i1 0 (ph2, T2) = some s' ∧ forN (F_impl_polynomial_expand_l3 i1 (pwI S) (rest : Int) ((2 ^ x : Nat) : Int) ((2 ^ x1 : Nat) : Int) k) i1 0 l2 = some t' ∧ P s' t' := by
        refine forN2 P i1 (fun i2 hi2 s t hst => ?_) i1 0 (by omega) (ph2, T2) l2 b3
        have gi2 := List.getElem?_eq_getElem (show i2 < S.length by omega)
        have mi2 : S[i2] ∈ S := List.getElem_mem _
        generalize S[i2] = x2 at gi2 mi2
        obtain ⟨_, _, _, z4, z5⟩ := sh mi2
        obtain ⟨q1, q2, q3, q4⟩ := orr mi2 p1 p2
        obtain ⟨ph3, T3, l3, c1, c2, c3⟩ := rl_add E hst q1 q2 (k := 4 * k) (by omega)
        refine ⟨(ph3, T3), l3, ?_, ?_, c3⟩
        · unfold F_spec_l21Sum_times_l3
          obtain ⟨s1, s2⟩ := s
          simp only
          rw [cf_take hi2 gi2, Option.bind_some, x4, y4, z4, x5, y5, z5, chN, chN, chN, o4, p4, q4, ps_w (by omega), c1]
          rfl
        · unfold F_impl_polynomial_expand_l3
          rw [pw_take hi2 gi2, Option.bind_some, o3, p3, q3, ps_w (by omega), c2]
          rfl
      obtain ⟨⟨s3, T3⟩, t3, d1, d2, d3⟩ := lev3
      refine ⟨(s3, T3), t3, ?_, ?_, d3⟩
      · unfold F_spec_l21Sum_times_l2
        obtain ⟨s1, s2⟩ := s
        simp only
        rw [cf_take hi1 gi1, Option.bind_some, x4, y4, x5, y5, chN, chN, o4, p4, ps_w (a := -2 * k) (by omega), b1, Option.bind_some, chk_t (by rw [cI_len, List.length_map]; omega), chk_t (by omega), d1]
        rfl
      · unfold F_impl_polynomial_expand_l2
        rw [pw_take hi1 gi1, Option.bind_some, o3, p3, ps_w (a := -2 * k) (by omega), b2, Option.bind_some, chk_t (by unfold pwI; rw [List.length_map]; omega), chk_t (by omega), d2]
        rfl
    obtain ⟨⟨s3, T3⟩, t3, d1, d2, d3⟩ := lev2
    refine ⟨(s3, T3), t3, ?_, ?_, d3⟩
    · unfold F_spec_l21Sum_times_l1
      obtain ⟨s1, s2⟩ := s
      simp only
      rw [cf_at gi, Option.bind_some, x4, x5, chN, o4, a1, Option.bind_some, chk_t (by rw [cI_len, List.length_map]; omega), chk_t (by omega), d1]
      rfl
    · unfold F_impl_polynomial_expand_l1
      rw [pw_at gi, Option.bind_some, o3, a2, Option.bind_some, chk_t (by unfold pwI; rw [List.length_map]; omega), chk_t (by omega), d2]
      rfl
  have fin_ : ∀ (k : Int) (ph : Int) (T : List TTerm) (l : List (Int × Int)), (-20 ≤ k ∧ k ≤ 20) → Rl e D l ph T →
      ∃ ph' T' l', ((F_spec_l1Set b.Mask).bind fun r_ => chk (r_.length ≤ 9223372036854775807) <| (forN (F_spec_l21Sum_times_l1 r_ ((e rest : Nat) : Int) k) r_.length 0 (ph, T)).bind fun (phase1, terms1) => some ((Tl21Sum.mk phase1 terms1))) = some (Tl21Sum.mk ph' T') ∧
        ((F_impl_bitsOf a.Mask).bind fun r_ => chk (r_.length ≤ 9223372036854775807) <| (forN (F_impl_polynomial_expand_l1 r_ (rest : Int) k) r_.length 0 l).bind fun m3 => some (m3)) = some l' ∧ Rl e D l' ph' T' := fun k ph T l hk h => by
    obtain ⟨⟨s', T'⟩, t', h1, h2, h3⟩ := core k ph T l hk h
    refine ⟨s', T', t', ?_, ?_, h3⟩
    · rw [hb, Option.bind_some, cI_len, List.length_map, chk_t (by omega), h1]; rfl
    · rw [ha, Option.bind_some, show (pwI S).length = S.length by simp [pwI], chk_t (by omega), h2]; rfl
  unfold F_spec_l21Sum_times F_impl_polynomial_expand
  rw [hab]
  cases hturn : (a.Turn == 1) with
  | true =>
    obtain ⟨ph1, T1, l1, a1, a2, a3⟩ := rl_add E h hD hm (k := k) (by omega)
    obtain ⟨ph', T', l', h1, h2, h3⟩ := fin_ (-k) ph1 T1 l1 (by omega) a3
    refine ⟨ph', T', l', ?_, ?_, h3⟩
    · simp only [cond_true, a1, Option.bind_some, ps_w (a := -k) (by omega)]; exact h1
    · simp only [cond_true, a2, Option.bind_some, ps_w (a := -k) (by omega)]; exact h2
  | false =>
    obtain ⟨ph', T', l', h1, h2, h3⟩ := fin_ k ph T l hk h
    refine ⟨ph', T', l', ?_, ?_, h3⟩
    · simp only [cond_false, Option.bind_some]; exact h1
    · simp only [cond_false, Option.bind_some]; exact h2

theorem setW_mem32 {x k : Nat} (h : x < 16777216) : k ∈ setW x 32 ↔ x.testBit k = true := by
  unfold setW
  rw [List.mem_filter, List.mem_range]
  refine ⟨fun h => h.2, fun h' => ⟨?_, h'⟩⟩
  rcases Nat.lt_or_ge k 32 with h1 | h1
  · exact h1
  · rw [Nat.testBit_lt_two_pow (Nat.lt_of_lt_of_le h (Nat.le_trans (by decide) (Nat.pow_le_pow_right (n := 2) (i := 32) (by decide) h1)))] at h'
    cases h'
theorem setW_lt24 {x k : Nat} (h : x < 16777216) (hk : k ∈ setW x 32) : k < 24 := by
  have := (setW_mem32 h).1 hk
  rcases Nat.lt_or_ge k 24 with h1 | h1
  · exact h1
  · rw [Nat.testBit_lt_two_pow (Nat.lt_of_lt_of_le h (Nat.pow_le_pow_right (n := 2) (i := 24) (by decide) h1))] at this
    cases this
theorem setW_len (x : Nat) : (setW x 32).length ≤ 32 := by
  unfold setW
  have := List.length_filter_le (fun k => x.testBit k) (List.range 32)
  rw [List.length_range] at this
  exact this
theorem xor24 {a b : Nat} (ha : a < 16777216) (hb : b < 16777216) : a ^^^ b < 16777216 := Nat.xor_lt_two_pow (n := 24) ha hb
/-- A gate that is taken, over n wires. -/
def gOk (n : Int) (g : TGate) : Bool :=
  bif decide (1 ≤ g.Kind) && decide (g.Kind ≤ 8) then decide (0 ≤ g.A) && decide (g.A ≤ n - 1) && (g.B == 0)
  else bif decide (9 ≤ g.Kind) && decide (g.Kind ≤ 11) then decide (0 ≤ g.A) && decide (g.A ≤ n - 1) && (decide (0 ≤ g.B) && decide (g.B ≤ n - 1)) && (g.A != g.B)
  else (g.Kind == 12) && (g.A == 0) && (g.B == 0)
theorem spec_gate {n : Int} (hn : 1 ≤ n ∧ n ≤ 5) (g : TGate) : F_spec_l4Gate n g = some (gOk n g) := by
  unfold F_spec_l4Gate F_spec_l1In gOk
  rw [wrap_i64 (a := n - 1) ⟨by omega, by omega⟩]
  simp only [Option.bind_some, gb]
  cases decide (1 ≤ g.Kind) && decide (g.Kind ≤ 8) <;> cases decide (9 ≤ g.Kind) && decide (g.Kind ≤ 11) <;> simp only [cond_true, cond_false, Option.bind_some]
  all_goals cases decide (0 ≤ g.A) && decide (g.A ≤ n - 1) <;> simp
theorem impl_gate {n : Int} (hn : 1 ≤ n ∧ n ≤ 5) (g : TGate) : F_impl_IsValidGate n g = some (gOk n g) := by
  unfold F_impl_IsValidGate F_impl_isTwo F_impl_within gOk
  rw [wrap_i64 (a := n - 1) ⟨by omega, by omega⟩]
  have h1 : decide (1 ≤ n) = true := decide_eq_true hn.1
  have h5 : decide (n ≤ 5) = true := decide_eq_true hn.2
  simp only [Option.bind_some, gb, h1, h5, Bool.and_self, Bool.not_true, Bool.not_false, cond_true, Bool.false_or]
  by_cases hk : 1 ≤ g.Kind ∧ g.Kind ≤ 12
  · have e1 : (decide (1 ≤ g.Kind) && decide (g.Kind ≤ 12)) = true := by simp [hk]
    simp only [e1, Bool.not_true, cond_false]
    by_cases h12 : g.Kind = 12
    · simp [h12]
    · have e12 : (g.Kind == 12) = false := by simp [h12]
      simp only [e12, cond_false]
      by_cases h9 : 9 ≤ g.Kind
      · have a1 : (decide (9 ≤ g.Kind) && decide (g.Kind ≤ 11)) = true := by simp; omega
        have a2 : (decide (1 ≤ g.Kind) && decide (g.Kind ≤ 8)) = false := by simp; omega
        simp only [a1, a2, cond_true, cond_false]
        cases decide (0 ≤ g.A) && decide (g.A ≤ n - 1) <;> simp
      · have a1 : (decide (9 ≤ g.Kind) && decide (g.Kind ≤ 11)) = false := by simp; omega
        have a2 : (decide (1 ≤ g.Kind) && decide (g.Kind ≤ 8)) = true := by simp; omega
        simp only [a1, a2, cond_true, cond_false]
  · have e1 : (decide (1 ≤ g.Kind) && decide (g.Kind ≤ 12)) = false := by simp; omega
    have a1 : (decide (9 ≤ g.Kind) && decide (g.Kind ≤ 11)) = false := by simp; omega
    have a2 : (decide (1 ≤ g.Kind) && decide (g.Kind ≤ 8)) = false := by simp; omega
    have a3 : (g.Kind == 12) = false := by simp; omega
    simp [e1, a1, a2, a3]
/-- A circuit that is taken. -/
def cOk (c : TCircuit) : Bool := decide (1 ≤ c.Qubits) && decide (c.Qubits ≤ 5) && decide (c.Gates.length ≤ 400) && c.Gates.all (gOk c.Qubits)
theorem spec_good (c : TCircuit) : F_spec_l4Good c = some (cOk c) := by
  unfold F_spec_l4Good F_spec_l1In cOk
  simp only [Option.bind_some]
  by_cases hn : 1 ≤ c.Qubits ∧ c.Qubits ≤ 5
  · by_cases hl : c.Gates.length ≤ 400
    · have e : (!(decide (1 ≤ c.Qubits) && decide (c.Qubits ≤ 5)) || decide ((400 : Int) < (c.Gates.length : Int))) = false := by simp [hn]; omega
      rw [e, cond_false, chk_t (by omega)]
      rcases forX_any (f := F_spec_l4Good_l1 c) (l := c.Gates) (p := fun g => !gOk c.Qubits g) (q := fun _ => false) (fun i x hx => by
        unfold F_spec_l4Good_l1; simp only [getI_nat, hx, Option.bind_some, spec_gate hn]; cases gOk c.Qubits x <;> rfl) with ⟨h1, h2⟩ | ⟨h1, i, _, h2⟩
      · rw [h2]
        have : c.Gates.all (gOk c.Qubits) = true := by rw [List.all_eq_true]; intro x hx; have := List.any_eq_false.1 h1 x hx; simpa using this
        simp [orR, hn, hl, this]
      · rw [h2]
        have : c.Gates.all (gOk c.Qubits) = false := by
          obtain ⟨x, hx, hp⟩ := List.any_eq_true.1 h1
          rw [List.all_eq_false]; exact ⟨x, hx, by simpa using hp⟩
        simp [orR, this]
    · have e : (!(decide (1 ≤ c.Qubits) && decide (c.Qubits ≤ 5)) || decide ((400 : Int) < (c.Gates.length : Int))) = true := by simp; omega
      rw [e, cond_true]
      simp [hl]
  · have e : (!(decide (1 ≤ c.Qubits) && decide (c.Qubits ≤ 5)) || decide ((400 : Int) < (c.Gates.length : Int))) = true := by simp; omega
    rw [e, cond_true]
    have : (decide (1 ≤ c.Qubits) && decide (c.Qubits ≤ 5)) = false := by simp; omega
    simp [this]
theorem impl_good (c : TCircuit) (hlen : c.Gates.length ≤ 1048576) : F_impl_IsValidCircuit c = some (cOk c) := by
  unfold F_impl_IsValidCircuit F_impl_within cOk
  simp only [Option.bind_some]
  by_cases hn : 1 ≤ c.Qubits ∧ c.Qubits ≤ 5
  · by_cases hl : c.Gates.length ≤ 400
    · have e : (decide (1 ≤ c.Qubits) && decide (c.Qubits ≤ 5) && decide ((c.Gates.length : Int) ≤ 400)) = true := by simp [hn]; omega
      rw [e]
      have hf : ∀ i x, c.Gates[i]? = some x → F_slices_IndexFunc_impl_Gate_impl_Gate_l1 c.Gates (fun x_0 => F_impl_IsValidCircuit_1 x_0 c) i () = some (bif !gOk c.Qubits x then .rt (i : Int) else .nx ()) := fun i x hx => by
        unfold F_slices_IndexFunc_impl_Gate_impl_Gate_l1 F_impl_IsValidCircuit_1
        simp only [getI_nat, hx, Option.bind_some, impl_gate hn]
        cases gOk c.Qubits x <;> rfl
      unfold F_slices_ContainsFunc_impl_Gate_impl_Gate F_slices_IndexFunc_impl_Gate_impl_Gate
      rw [chk_t (by omega)]
      rcases forX_any hf with ⟨h1, h2⟩ | ⟨h1, i, _, h2⟩
      · rw [h2]
        have : c.Gates.all (gOk c.Qubits) = true := by rw [List.all_eq_true]; intro x hx; have := List.any_eq_false.1 h1 x hx; simpa using this
        simp [orR, hn, hl, this, gb]
      · rw [h2]
        have : c.Gates.all (gOk c.Qubits) = false := by
          obtain ⟨x, hx, hp⟩ := List.any_eq_true.1 h1
          rw [List.all_eq_false]; exact ⟨x, hx, by simpa using hp⟩
        simp [orR, this, gb]
    · have e : (decide (1 ≤ c.Qubits) && decide (c.Qubits ≤ 5) && decide ((c.Gates.length : Int) ≤ 400)) = false := by simp; omega
      rw [e]
      simp [gb, hl]
  · have this : (decide (1 ≤ c.Qubits) && decide (c.Qubits ≤ 5)) = false := by simp; omega
    simp [gb, this]
theorem em_id : EM (fun m => m) (fun _ => True) (fun k => k) := ⟨fun a b _ _ h => h, fun a h => h, fun a b _ _ => ⟨trivial, rfl⟩, fun k _ => rfl, fun k => Nat.le_refl k⟩
def Rl0 (l : List (Int × Int)) (ph : Int) (T : List TTerm) : Prop := Rl (fun m => m) (fun _ => True) l ph T
theorem s_add0 {ph : Int} {T : List TTerm} (hp : 0 ≤ ph ∧ ph ≤ 7) (m : Int) : F_spec_l21Sum_add (Tl21Sum.mk ph T) m 0 = some (Tl21Sum.mk ph T) := by
  unfold F_spec_l21Sum_add
  simp only
  rw [show Int.tmod (IntKind.i64.wrap (Int.tmod (0 : Int) 8 + 8)) 8 = 0 from by decide, Int.add_zero, k8' (by omega), Int.emod_eq_of_lt hp.1 (by omega)]
  cases m == 0 <;> rfl
theorem add_rl {l : List (Int × Int)} {ph : Int} {T : List TTerm} (h : Rl0 l ph T) {m : Nat} (hm : m < 16777216) {k : Int} (hk : -1000 ≤ k ∧ k ≤ 1000) :
    ∃ ph' T' l', F_spec_l21Sum_add (Tl21Sum.mk ph T) (m : Int) k = some (Tl21Sum.mk ph' T') ∧ F_impl_polynomial_add l (m : Int) k = some l' ∧ Rl0 l' ph' T' := rl_add em_id h trivial hm hk
theorem forN_id {σ : Type} {f : Nat → σ → Option σ} {s : σ} {n : Nat} (h : ∀ i, i < n → f i s = some s) : ∀ (d i : Nat), i + d ≤ n → forN f d i s = some s
  | 0, _, _ => rfl
  | d + 1, i, hi => by
    simp only [forN, h i (by omega), Option.bind_some]
    exact forN_id h d (i + 1) (by omega)
theorem forN_plus {σ : Type} {f : Nat → σ → Option σ} : ∀ (m n i : Nat) (s : σ), forN f (m + n) i s = (forN f m i s).bind fun s => forN f n (i + m) s
  | 0, n, i, s => by rw [Nat.zero_add, Nat.add_zero]; rfl
  | m + 1, n, i, s => by
    rw [show m + 1 + n = (m + n) + 1 by omega]
    simp only [forN]
    cases f i s with
    | none => rfl
    | some t => simp only [Option.bind_some]; rw [forN_plus m n (i + 1) t, show i + 1 + m = i + (m + 1) by omega]
/-- The list with the constant at its end. -/
def twoL (S : List Nat) (t : Nat) : List Int := pwI S ++ (if t = 1 then [0] else [])
theorem two_len (S : List Nat) {t : Nat} (ht : t ≤ 1) : (twoL S t).length = S.length + t := by
  unfold twoL pwI
  rw [List.length_append, List.length_map]
  have : t = 0 ∨ t = 1 := by omega
  rcases this with rfl | rfl <;> simp
theorem two_at {S : List Nat} {t i s : Nat} (h : S[i]? = some s) : getI (twoL S t) (i : Int) = some ((2 ^ s : Nat) : Int) := by
  have hi := (List.getElem?_eq_some_iff.1 h).1
  rw [getI_nat]
  unfold twoL
  rw [List.getElem?_append_left (by simpa [pwI] using hi), ← getI_nat]
  exact pw_at h
theorem two_last {S : List Nat} : getI (twoL S 1) (S.length : Int) = some 0 := by
  rw [getI_nat]
  unfold twoL
  rw [List.getElem?_append_right (by simp [pwI])]
  simp [pwI]
/-- One row of the product. -/
theorem row_rl {S : List Nat} (hS : ∀ s ∈ S, s < 24) {t : Nat} (ht : t ≤ 1) {xm : Nat} (hx : xm < 16777216) {F : Nat → (Int × List TTerm) → Option (Int × List TTerm)}
    (hF : ∀ (i y : Nat) (ph : Int) (T : List TTerm), S[i]? = some y → F i (ph, T) = (F_spec_l21Sum_add (Tl21Sum.mk ph T) ((xm ||| 2 ^ y : Nat) : Int) 4).bind fun m => some (m.phase, m.terms)) {l : List (Int × Int)} {ph : Int} {T : List TTerm} (h : Rl0 l ph T) :
    ∃ ph1 T1 ph' T' l', forN F S.length 0 (ph, T) = some (ph1, T1) ∧ F_spec_l21Sum_add (Tl21Sum.mk ph1 T1) (xm : Int) (4 * (t : Int)) = some (Tl21Sum.mk ph' T') ∧
      forN (F_impl_polynomial_product_l2 (twoL S t) (xm : Int)) (twoL S t).length 0 l = some l' ∧ Rl0 l' ph' T' := by
  obtain ⟨⟨ph1, T1⟩, l1, e1, e2, h1⟩ := forN2 (f := F) (g := F_impl_polynomial_product_l2 (twoL S t) (xm : Int)) (fun s t => Rl0 t s.1 s.2) S.length (fun i hi s u hst => by
    obtain ⟨sa, sb⟩ := s
    have gi := List.getElem?_eq_getElem hi
    have mi : S[i] ∈ S := List.getElem_mem hi
    generalize S[i] = y at gi mi
    have hy := two24 (hS y mi)
    obtain ⟨ph1, T1, l1, a1, a2, a3⟩ := add_rl hst (m := xm ||| 2 ^ y) (or24 hx hy) (k := 4) (by omega)
    refine ⟨(ph1, T1), l1, ?_, ?_, a3⟩
    · rw [hF i y _ _ gi, a1]; rfl
    · unfold F_impl_polynomial_product_l2
      rw [two_at gi, Option.bind_some, or_i (by omega) (by omega), a2]
      rfl) S.length 0 (by omega) (ph, T) l h
  simp only at h1
  have : t = 0 ∨ t = 1 := by omega
  rcases this with rfl | rfl
  · refine ⟨ph1, T1, ph1, T1, l1, e1, s_add0 h1.ran _, ?_, h1⟩
    rw [two_len S (by omega)]; exact e2
  · obtain ⟨ph2, T2, l2, a1, a2, a3⟩ := add_rl h1 (m := xm) hx (k := 4) (by omega)
    refine ⟨ph1, T1, ph2, T2, l2, e1, a1, ?_, a3⟩
    rw [two_len S (by omega), forN_plus, e2, Option.bind_some]
    simp only [forN]
    unfold F_impl_polynomial_product_l2
    rw [Nat.zero_add, two_last, Option.bind_some, show (0 : Int) = ((0 : Nat) : Int) from rfl, or_i (by omega) (by omega), Nat.or_zero, a2]
    rfl
theorem prod_rl {a b s t : Nat} (ha : a < 16777216) (hb : b < 16777216) (hs : s ≤ 1) (ht : t ≤ 1) {l : List (Int × Int)} {ph : Int} {T : List TTerm} (h : Rl0 l ph T) :
    ∃ ph' T' l', F_spec_l21Sum_product (Tl21Sum.mk ph T) (TAffine.mk (a : Int) (s : Int)) (TAffine.mk (b : Int) (t : Int)) = some (Tl21Sum.mk ph' T') ∧ F_impl_polynomial_product l (TAffine.mk (a : Int) (s : Int)) (TAffine.mk (b : Int) (t : Int)) = some l' ∧ Rl0 l' ph' T' := by
  have lA := setW_len a; have lB := setW_len b
  have sA : ∀ x ∈ setW a 32, x < 24 := fun x hx => setW_lt24 ha hx
  have sB : ∀ x ∈ setW b 32, x < 24 := fun x hx => setW_lt24 hb hx
  have chN : ∀ {α : Type} (a : Nat) (x : Option α), chk ((0 : Int) ≤ (a : Int)) x = x := fun a x => chk_t (by omega)
  have lT : (twoL (setW b 32) t).length ≤ 33 := by rw [two_len _ ht]; omega
  -- the rows of the bits
  obtain ⟨⟨ph1, T1⟩, l1, e1, e2, h1⟩ := forN2 (f := F_spec_l21Sum_product_l1 (cI (setW a 32)) (TAffine.mk (b : Int) (t : Int))) (g := F_impl_polynomial_product_l1 (twoL (setW a 32) s) (twoL (setW b 32) t)) (fun s t => Rl0 t s.1 s.2) (setW a 32).length (fun i hi st u hst => by
    obtain ⟨sa, sb⟩ := st
    have gi := List.getElem?_eq_getElem hi
    have mi : (setW a 32)[i] ∈ setW a 32 := List.getElem_mem hi
    generalize (setW a 32)[i] = x at gi mi
    have hx := sA x mi
    have hx2 := two24 hx
    have ux : IntKind.u64.wrap (x : Int) = (x : Int) := wrapU (by omega)
    have sx := (ps_shl1 (v := x) (by omega)).1
    obtain ⟨ph1, T1, ph2, T2, l2, r1, r2, r3, r4⟩ := row_rl sB ht (xm := 2 ^ x) hx2 (F := F_spec_l21Sum_product_l2 (cI (setW b 32)) (x : Int)) (fun i y ph T hy => by
      have hy24 := sB y (List.mem_of_getElem? hy)
      have hy2 := two24 hy24
      unfold F_spec_l21Sum_product_l2
      simp only
      rw [cI_get hy, Option.bind_some, ux, wrapU (show y < 18446744073709551616 by omega), chN, chN, sx, (ps_shl1 (v := y) (by omega)).1, or_i (by omega) (by omega)]) hst
    refine ⟨(ph2, T2), l2, ?_, ?_, r4⟩
    · unfold F_spec_l21Sum_product_l1
      simp only
      rw [cI_get gi, Option.bind_some, setW_eq (by omega), Option.bind_some, cI_len, chk_t (by omega), r1]
      simp only [Option.bind_some]
      rw [ux, chN, sx, ps_w (by omega), r2]
      rfl
    · unfold F_impl_polynomial_product_l1
      rw [two_at gi, Option.bind_some, chk_t (by omega), r3]
      rfl) (setW a 32).length 0 (by omega) (ph, T) l h
  simp only at h1
  have pS : ∀ {ph2 : Int} {T2 : List TTerm} {l2 : List (Int × Int)}, ∀ ph3 T3, forN (F_spec_l21Sum_product_l3 (cI (setW b 32)) (TAffine.mk (a : Int) (s : Int))) (setW b 32).length 0 (ph1, T1) = some (ph3, T3) →
      F_spec_l21Sum_add (Tl21Sum.mk ph3 T3) 0 ((4 * (s : Int)) * (t : Int)) = some (Tl21Sum.mk ph2 T2) → F_spec_l21Sum_product (Tl21Sum.mk ph T) (TAffine.mk (a : Int) (s : Int)) (TAffine.mk (b : Int) (t : Int)) = some (Tl21Sum.mk ph2 T2) := fun {ph2 T2 l2} ph3 T3 g1 g2 => by
    have hst : 0 ≤ 4 * (s : Int) * (t : Int) ∧ 4 * (s : Int) * (t : Int) ≤ 4 := by
      have h1 : s = 0 ∨ s = 1 := by omega
      have h2 : t = 0 ∨ t = 1 := by omega
      rcases h1 with rfl | rfl <;> rcases h2 with rfl | rfl <;> decide
    unfold F_spec_l21Sum_product
    simp only
    rw [setW_eq (by omega), Option.bind_some, cI_len, chk_t (by omega), e1]
    simp only [Option.bind_some]
    rw [setW_eq (by omega), Option.bind_some, cI_len, chk_t (by omega), g1]
    simp only [Option.bind_some]
    rw [ps_w (a := 4 * (s : Int)) (by omega), ps_w (by omega), g2]
    rfl
  have pI : ∀ {l2 : List (Int × Int)}, forN (F_impl_polynomial_product_l1 (twoL (setW a 32) s) (twoL (setW b 32) t)) (twoL (setW a 32) s).length 0 l = some l2 → F_impl_polynomial_product l (TAffine.mk (a : Int) (s : Int)) (TAffine.mk (b : Int) (t : Int)) = some l2 := fun {l2} g => by
    unfold F_impl_polynomial_product
    simp only
    rw [bitsOf_eq (by omega), bitsOf_eq (by omega)]
    simp only [Option.bind_some]
    have tw : ∀ (S : List Nat) (u : Nat), u ≤ 1 → S.length ≤ 32 → ((bif ((u : Int) == 1) then (chk ((pwI S).length + 1 ≤ 1099511627776) <| some (pwI S ++ [0])) else (some (pwI S))) : Option (List Int)) = some (twoL S u) := fun S u hu hS => by
      have : u = 0 ∨ u = 1 := by omega
      rcases this with rfl | rfl
      · unfold twoL; simp
      · rw [show (((1 : Nat) : Int) == 1) = true from rfl, cond_true, chk_t (by simp [pwI]; omega)]; rfl
    rw [tw _ s hs lA, Option.bind_some, tw _ t ht lB, Option.bind_some, chk_t (by rw [two_len _ hs]; omega), g]
    rfl
  have hs' : s = 0 ∨ s = 1 := by omega
  rcases hs' with rfl | rfl
  · refine ⟨ph1, T1, l1, pS (l2 := l1) ph1 T1 (forN_id (n := (setW b 32).length) (fun i hi => ?_) _ 0 (by omega)) ?_, pI ?_, h1⟩
    · have gi := List.getElem?_eq_getElem hi
      have mi : (setW b 32)[i] ∈ setW b 32 := List.getElem_mem hi
      generalize (setW b 32)[i] = x at gi mi
      have hx := sB x mi
      unfold F_spec_l21Sum_product_l3
      simp only
      rw [cI_get gi, Option.bind_some, wrapU (show x < 18446744073709551616 by omega), chN, show IntKind.i64.wrap (4 * ((0 : Nat) : Int)) = 0 from by decide, s_add0 h1.ran]
      rfl
    · rw [show 4 * ((0 : Nat) : Int) * (t : Int) = 0 by omega]
      exact s_add0 h1.ran _
    · rw [two_len _ hs]; exact e2
  · obtain ⟨ph2, T2, ph3, T3, l3, r1, r2, r3, r4⟩ := row_rl sB ht (xm := 0) (by decide) (F := F_spec_l21Sum_product_l3 (cI (setW b 32)) (TAffine.mk (a : Int) ((1 : Nat) : Int))) (fun i y ph T hy => by
      have hy24 := sB y (List.mem_of_getElem? hy)
      unfold F_spec_l21Sum_product_l3
      simp only
      rw [cI_get hy, Option.bind_some, wrapU (show y < 18446744073709551616 by omega), chN, (ps_shl1 (v := y) (by omega)).1, Nat.zero_or, show IntKind.i64.wrap (4 * ((1 : Nat) : Int)) = 4 from by decide]) h1
    refine ⟨ph3, T3, l3, pS (l2 := l3) ph2 T2 r1 ?_, pI ?_, r4⟩
    · rw [show 4 * ((1 : Nat) : Int) * (t : Int) = 4 * (t : Int) by omega]; exact r2
    · rw [two_len _ hs, forN_plus, e2, Option.bind_some]
      simp only [forN]
      unfold F_impl_polynomial_product_l1
      rw [Nat.zero_add, two_last, Option.bind_some, chk_t (by omega), show (0 : Int) = ((0 : Nat) : Int) from rfl, r3]
      rfl

theorem times_rl {l : List (Int × Int)} {ph : Int} {T : List TTerm} (h : Rl0 l ph T) {k : Int} (hk : -20 ≤ k ∧ k ≤ 20) {m : Nat} (hm : m < 16777216) (t : Int) :
    ∃ ph' T' l', F_spec_l21Sum_times (Tl21Sum.mk ph T) 0 k (TAffine.mk (m : Int) t) = some (Tl21Sum.mk ph' T') ∧ F_impl_polynomial_expand l k (TAffine.mk (m : Int) t) 0 = some l' ∧ Rl0 l' ph' T' :=
  rl_times em_id h (rest := 0) trivial (by decide) hk (S := setW m 32) (fun s hs => ⟨setW_lt24 hm hs, trivial⟩) (Nat.le_trans (setW_len m) (by decide)) (a := TAffine.mk (m : Int) t) (b := TAffine.mk (m : Int) t) (bitsOf_eq (by omega)) (by rw [setW_eq (by omega), List.map_id']) rfl
structure AO (O : List TAffine) (n : Nat) : Prop where
  len : O.length = n
  mem : ∀ x ∈ O, ∃ m t : Nat, x = TAffine.mk (m : Int) (t : Int) ∧ m < 16777216 ∧ t ≤ 1
theorem AO.at {O : List TAffine} {n i : Nat} (h : AO O n) (hi : i < n) : ∃ m t : Nat, O[i]? = some (TAffine.mk (m : Int) (t : Int)) ∧ m < 16777216 ∧ t ≤ 1 := by
  have hi' : i < O.length := by rw [h.len]; exact hi
  obtain ⟨m, t, e, h1, h2⟩ := h.mem O[i] (List.getElem_mem hi')
  exact ⟨m, t, by rw [List.getElem?_eq_getElem hi', e], h1, h2⟩
theorem AO.set {O : List TAffine} {n : Nat} (h : AO O n) (i : Nat) {m t : Nat} (hm : m < 16777216) (ht : t ≤ 1) : AO (O.set i (TAffine.mk (m : Int) (t : Int))) n := by
  refine ⟨by rw [List.length_set]; exact h.len, fun x hx => ?_⟩
  rcases List.mem_or_eq_of_mem_set hx with hx | rfl
  · exact h.mem x hx
  · exact ⟨m, t, rfl, hm, ht⟩
theorem get_set {O : List TAffine} {i : Nat} {x y : TAffine} (h : O[i]? = some x) : getI (O.set i y) (i : Int) = some y := by
  rw [getI_nat, List.getElem?_set_self (List.getElem?_eq_some_iff.1 h).1]
theorem get_set_ne {O : List TAffine} {i j : Nat} {x y : TAffine} (hij : i ≠ j) (h : O[j]? = some x) : getI (O.set i y) (j : Int) = some x := by
  rw [getI_nat, List.getElem?_set_ne hij, h]
theorem xor1 {t u : Nat} (ht : t ≤ 1) (hu : u ≤ 1) : t ^^^ u ≤ 1 := by
  have h1 : t = 0 ∨ t = 1 := by omega
  have h2 : u = 0 ∨ u = 1 := by omega
  rcases h1 with rfl | rfl <;> rcases h2 with rfl | rfl <;> decide
def PR (Q : Nat) (s : Int × Int × List TAffine × Int × List TTerm) (u : Int × Int × Int × Int × (List (Int × Int)) × List TAffine) : Prop :=
  ∃ (V : Nat) (O : List TAffine) (ph : Int) (T : List TTerm) (l : List (Int × Int)), s = ((V : Int), (V : Int), O, ph, T) ∧ u = ((Q : Int), (V : Int), (V : Int), (0 : Int), l, O) ∧ Q + V ≤ 24 ∧ AO O Q ∧ Rl0 l ph T
theorem gOk_full {Q : Nat} {g : TGate} (h : gOk (Q : Int) g = true) (hQ : 1 ≤ Q) : ∃ a b : Nat, g.A = (a : Int) ∧ g.B = (b : Int) ∧ a < Q ∧ b < Q ∧ 1 ≤ g.Kind ∧ g.Kind ≤ 12 ∧ (9 ≤ g.Kind → g.Kind ≤ 11 → a ≠ b) := by
  unfold gOk at h
  by_cases h1 : 1 ≤ g.Kind ∧ g.Kind ≤ 8
  · have e : (decide (1 ≤ g.Kind) && decide (g.Kind ≤ 8)) = true := by simp [h1]
    rw [e, cond_true] at h
    simp at h
    exact ⟨g.A.toNat, 0, by omega, by omega, by omega, by omega, by omega, by omega, by omega⟩
  · have e : (decide (1 ≤ g.Kind) && decide (g.Kind ≤ 8)) = false := by simp; omega
    rw [e, cond_false] at h
    by_cases h2 : 9 ≤ g.Kind ∧ g.Kind ≤ 11
    · have e : (decide (9 ≤ g.Kind) && decide (g.Kind ≤ 11)) = true := by simp [h2]
      rw [e, cond_true] at h
      simp at h
      exact ⟨g.A.toNat, g.B.toNat, by omega, by omega, by omega, by omega, by omega, by omega, by omega⟩
    · have e : (decide (9 ≤ g.Kind) && decide (g.Kind ≤ 11)) = false := by simp; omega
      rw [e, cond_false] at h
      simp at h
      exact ⟨0, 0, by omega, by omega, by omega, by omega, by omega, by omega, by omega⟩
theorem coef_ps {k : Int} (h : 4 ≤ k ∧ k ≤ 8) : ∃ r, F_spec_l13Coef k = some r ∧ F_impl_rotationCoef k = some r ∧ 1 ≤ r ∧ r ≤ 7 ∧ (k == 1) = false ∧ (k == 2) = false ∧ (k == 3) = false ∧ (k == 9) = false ∧ (k == 10) = false ∧ (k == 11) = false ∧ (k == 12) = false := by
  have : k = 4 ∨ k = 5 ∨ k = 6 ∨ k = 7 ∨ k = 8 := by omega
  rcases this with rfl | rfl | rfl | rfl | rfl <;> exact ⟨_, rfl, rfl, by decide⟩
/-- One gate. -/
theorem gate_rl {c : TCircuit} {Q : Nat} (hQ : 1 ≤ Q ∧ Q ≤ 5) (hq : c.Qubits = (Q : Int)) {i : Nat} {g : TGate} (hg : c.Gates[i]? = some g) (hok : gOk (Q : Int) g = true) {s : Int × Int × List TAffine × Int × List TTerm} {u : Int × Int × Int × Int × (List (Int × Int)) × List TAffine} (h : PR Q s u) :
    (∃ s' u', F_spec_l21Of_l2 c i s = some (.nx s') ∧ F_impl_PathSumOf_l2 c i u = some (.nx u') ∧ PR Q s' u') ∨
      (F_spec_l21Of_l2 c i s = some (.rt (TPathSum.mk 0 0 0 0 [] [], false)) ∧ F_impl_PathSumOf_l2 c i u = some (.rt (TPathSum.mk 0 0 0 0 [] [], false))) := by
  obtain ⟨V, O, ph, T, l, rfl, rfl, hV, hO, hr⟩ := h
  obtain ⟨a, b, hA, hB, ha, hb, hk1, hk2, hne⟩ := gOk_full hok hQ.1
  obtain ⟨ma, ta, oa, ma2, ta2⟩ := hO.at ha
  obtain ⟨mb, tb, ob, mb2, tb2⟩ := hO.at hb
  have ga : getI O (a : Int) = some (TAffine.mk (ma : Int) (ta : Int)) := by rw [getI_nat, oa]
  have gb' : getI O (b : Int) = some (TAffine.mk (mb : Int) (tb : Int)) := by rw [getI_nat, ob]
  have ua : IntKind.i64.wrap ((Q : Int) + (V : Int)) = ((Q + V : Nat) : Int) := by rw [ps_w (by omega)]; omega
  have uu : IntKind.u64.wrap ((Q + V : Nat) : Int) = ((Q + V : Nat) : Int) := wrapU (by omega)
  have x0 : bits .xor .i64 (ma : Int) 0 = (ma : Int) := by
    rw [show (0 : Int) = ((0 : Nat) : Int) from rfl, xor_i (by omega) (by omega), Nat.xor_zero]
  have x1 : bits .xor .i64 (ta : Int) 1 = ((ta ^^^ 1 : Nat) : Int) := by
    rw [show (1 : Int) = ((1 : Nat) : Int) from rfl, xor_i (by omega) (by omega)]
  obtain ⟨gk, gA, gB⟩ := g
  simp only at hA hB hk1 hk2 hne
  subst hA; subst hB
  unfold F_spec_l21Of_l2 F_impl_PathSumOf_l2 F_impl_summer_process
  rw [getI_nat, hg]
  simp only [Option.bind_some, ga, gb', hq, ua, uu, Int.toNat_natCast]
  have hkk : gk = 1 ∨ gk = 2 ∨ gk = 3 ∨ (4 ≤ gk ∧ gk ≤ 8) ∨ gk = 9 ∨ gk = 10 ∨ gk = 11 ∨ gk = 12 := by omega
  rcases hkk with rfl | rfl | rfl | hrot | rfl | rfl | rfl | rfl
  · -- a Hadamard gate
    by_cases h24 : Q + V = 24
    · right
      have e1 : (((Q + V : Nat) : Int) == 24) = true := by simp; omega
      have e2 : decide ((24 : Int) ≤ ((Q + V : Nat) : Int)) = true := by simp; omega
      rw [e1, e2]
      exact ⟨rfl, rfl⟩
    · left
      have e1 : (((Q + V : Nat) : Int) == 24) = false := by simp; omega
      have e2 : decide ((24 : Int) ≤ ((Q + V : Nat) : Int)) = false := by simp; omega
      have hp2 := two24 (k := Q + V) (by omega)
      obtain ⟨ph', T', l', p1, p2, p3⟩ := prod_rl (a := ma) (s := ta) (b := 2 ^ (Q + V)) (t := 0) ma2 hp2 ta2 (by decide) hr
      rw [e1, e2, chk_t (by omega), chk_t (by omega), (ps_shl1 (v := Q + V) (by omega)).1]
      rw [show ((0 : Nat) : Int) = 0 from rfl] at p1 p2
      simp only [cond_true, cond_false, show ((1 : Int) == 1) = true from rfl, p1, p2, Option.bind_some, orR, Bool.not_true]
      refine ⟨_, _, rfl, rfl, V + 1, O.set a (TAffine.mk ((2 ^ (Q + V) : Nat) : Int) 0), ph', T', l', ?_, ?_, by omega, hO.set a (t := 0) hp2 (by decide), p3⟩
      · rw [ps_w (by omega)]; rfl
      · rw [ps_w (by omega)]; rfl
  · left
    simp only [cond_true, cond_false, show ((2 : Int) == 1) = false from rfl, show ((2 : Int) == 2) = true from rfl, Option.bind_some, orR, Bool.not_true, F_spec_l21Xor, x0, x1]
    exact ⟨_, _, rfl, rfl, V, _, ph, T, l, rfl, rfl, hV, hO.set a ma2 (xor1 ta2 (by decide)), hr⟩
  · left
    obtain ⟨ph1, T1, l1, a1, a2, a3⟩ := add_rl hr (m := 0) (by decide) (k := 2) (by omega)
    obtain ⟨ph2, T2, l2, b1, b2, b3⟩ := times_rl a3 (k := 4) (by omega) ma2 (ta : Int)
    rw [show ((0 : Nat) : Int) = 0 from rfl] at a1 a2
    simp only [cond_true, cond_false, show ((3 : Int) == 1) = false from rfl, show ((3 : Int) == 2) = false from rfl, show ((3 : Int) == 3) = true from rfl, Option.bind_some, orR, Bool.not_true, F_spec_l21Xor, x0, x1, a1, a2, b1, b2]
    exact ⟨_, _, rfl, rfl, V, _, ph2, T2, l2, rfl, rfl, hV, hO.set a ma2 (xor1 ta2 (by decide)), b3⟩
  · left
    obtain ⟨r, r1, r2, r3, r4, k1, k2, k3, k9, k10, k11, k12⟩ := coef_ps hrot
    obtain ⟨ph2, T2, l2, b1, b2, b3⟩ := times_rl hr (k := r) (by omega) ma2 (ta : Int)
    simp only [k1, k2, k3, k9, k10, k11, k12, cond_true, cond_false, Option.bind_some, orR, Bool.not_true, r1, r2, b1, b2]
    exact ⟨_, _, rfl, rfl, V, _, ph2, T2, l2, rfl, rfl, hV, hO, b3⟩
  · left
    have hab := hne (by decide) (by decide)
    have y1 : bits .xor .i64 (ma : Int) (mb : Int) = ((ma ^^^ mb : Nat) : Int) := xor_i (by omega) (by omega)
    have y2 : bits .xor .i64 (mb : Int) (ma : Int) = ((ma ^^^ mb : Nat) : Int) := by rw [xor_i (by omega) (by omega), Nat.xor_comm]
    have y3 : bits .xor .i64 (ta : Int) (tb : Int) = ((ta ^^^ tb : Nat) : Int) := xor_i (by omega) (by omega)
    have y4 : bits .xor .i64 (tb : Int) (ta : Int) = ((ta ^^^ tb : Nat) : Int) := by rw [xor_i (by omega) (by omega), Nat.xor_comm]
    simp only [cond_true, cond_false, show ((9 : Int) == 1) = false from rfl, show ((9 : Int) == 2) = false from rfl, show ((9 : Int) == 3) = false from rfl, show ((9 : Int) == 9) = true from rfl, Option.bind_some, orR, Bool.not_true, F_spec_l21Xor, y1, y2, y3, get_set ob, get_set_ne (Ne.symm hab) oa, y4, List.set_set]
    exact ⟨_, _, rfl, rfl, V, _, ph, T, l, rfl, rfl, hV, hO.set b (xor24 ma2 mb2) (xor1 ta2 tb2), hr⟩
  · left
    obtain ⟨ph2, T2, l2, b1, b2, b3⟩ := prod_rl ma2 mb2 ta2 tb2 hr
    simp only [cond_true, cond_false, show ((10 : Int) == 1) = false from rfl, show ((10 : Int) == 2) = false from rfl, show ((10 : Int) == 3) = false from rfl, show ((10 : Int) == 9) = false from rfl, show ((10 : Int) == 10) = true from rfl, Option.bind_some, orR, Bool.not_true, b1, b2]
    exact ⟨_, _, rfl, rfl, V, _, ph2, T2, l2, rfl, rfl, hV, hO, b3⟩
  · left
    have hab := hne (by decide) (by decide)
    simp only [cond_true, cond_false, show ((11 : Int) == 1) = false from rfl, show ((11 : Int) == 2) = false from rfl, show ((11 : Int) == 3) = false from rfl, show ((11 : Int) == 9) = false from rfl, show ((11 : Int) == 10) = false from rfl, show ((11 : Int) == 11) = true from rfl, Option.bind_some, orR, Bool.not_true, get_set_ne hab ob]
    exact ⟨_, _, rfl, rfl, V, _, ph, T, l, rfl, rfl, hV, (hO.set a mb2 tb2).set b ma2 ta2, hr⟩
  · left
    obtain ⟨ph1, T1, l1, a1, a2, a3⟩ := add_rl hr (m := 0) (by decide) (k := 1) (by omega)
    rw [show ((0 : Nat) : Int) = 0 from rfl] at a1 a2
    simp only [cond_true, cond_false, show ((12 : Int) == 1) = false from rfl, show ((12 : Int) == 2) = false from rfl, show ((12 : Int) == 3) = false from rfl, show ((12 : Int) == 9) = false from rfl, show ((12 : Int) == 10) = false from rfl, show ((12 : Int) == 11) = false from rfl, show ((12 : Int) == 12) = true from rfl, Option.bind_some, orR, Bool.not_true, a1, a2]
    exact ⟨_, _, rfl, rfl, V, _, ph1, T1, l1, rfl, rfl, hV, hO, a3⟩
theorem forX2 {σ τ ρ : Type} {f : Nat → σ → Option (Ex σ ρ)} {g : Nat → τ → Option (Ex τ ρ)} (P : σ → τ → Prop) (z : ρ) (n : Nat) (step : ∀ i, i < n → ∀ s t, P s t → (∃ s' t', f i s = some (.nx s') ∧ g i t = some (.nx t') ∧ P s' t') ∨ (f i s = some (.rt z) ∧ g i t = some (.rt z))) :
    ∀ (d i : Nat), i + d ≤ n → ∀ s t, P s t → (∃ s' t', forX f d i s = some (.inl s') ∧ forX g d i t = some (.inl t') ∧ P s' t') ∨ (forX f d i s = some (.inr z) ∧ forX g d i t = some (.inr z))
  | 0, _, _, s, t, h => .inl ⟨s, t, rfl, rfl, h⟩
  | d + 1, i, hi, s, t, h => by
    rcases step i (by omega) s t h with ⟨s1, t1, e1, e2, h1⟩ | ⟨e1, e2⟩
    · simp only [forX, e1, e2, Option.bind_some]
      exact forX2 P z n step d (i + 1) (by omega) s1 t1 h1
    · right
      simp only [forX, e1, e2, Option.bind_some]
      exact ⟨trivial, trivial⟩
theorem id_terms {l : List (Int × Int)} {ph : Int} {T : List TTerm} (h : Rl0 l ph T) : termsOf l = T ∧ mgt l 0 0 = ph := by
  obtain ⟨_, hT, hcof⟩ := terms_ok h.mp
  refine ⟨tm_ext hT h.tm fun j hj => ?_, ?_⟩
  · rw [hcof j hj, ← h.eq j trivial]
    unfold sf
    rw [if_neg (by omega)]
  · have := h.eq 0 trivial
    exact this.symm
theorem start_o : ∀ Q : Fin 6, forN F_spec_l21Of_l1 Q.val 0 [] = some ((List.range Q.val).map fun k => TAffine.mk ((2 ^ k : Nat) : Int) ((0 : Nat) : Int)) ∧ forN F_impl_PathSumOf_l1 Q.val 0 [] = some ((List.range Q.val).map fun k => TAffine.mk ((2 ^ k : Nat) : Int) ((0 : Nat) : Int)) := by decide +kernel
/-- Whole circuits. -/
theorem of_both {c : TCircuit} (hc : cOk c = true) : ∃ r b, F_spec_l21Of c = some (r, b) ∧ (∀ (z : TPathSum × Bool), F_impl_IsValidCircuit c = some true → F_impl_PathSumOf c = some (r, b)) ∧ r.Terms.length ≤ 1099511627776 ∧ r.Out.length ≤ 1099511627776 := by
  have hc' := hc
  unfold cOk at hc'
  simp only [Bool.and_eq_true, decide_eq_true_eq] at hc'
  obtain ⟨⟨⟨q1, q2⟩, hl⟩, hall⟩ := hc'
  obtain ⟨Q, hQ⟩ : ∃ Q : Nat, c.Qubits = (Q : Int) := ⟨c.Qubits.toNat, by omega⟩
  obtain ⟨o1, o2⟩ := start_o ⟨Q, by omega⟩
  simp only at o1 o2
  have hO : AO ((List.range Q).map fun k => TAffine.mk ((2 ^ k : Nat) : Int) ((0 : Nat) : Int)) Q := by
    refine ⟨by simp, fun x hx => ?_⟩
    obtain ⟨k, hk, rfl⟩ := List.mem_map.1 hx
    exact ⟨2 ^ k, 0, rfl, two24 (by have := List.mem_range.1 hk; omega), by decide⟩
  have hin : Rl0 ([] : List (Int × Int)) 0 [] := by
    refine ⟨by decide, ⟨List.Pairwise.nil, fun t ht => by cases ht⟩, ⟨List.Pairwise.nil, fun t ht => by cases ht⟩, fun j _ => ?_, fun q hq => by cases hq⟩
    unfold sf mgt mfd
    split <;> rfl
  have loop := forX2 (f := F_spec_l21Of_l2 c) (g := F_impl_PathSumOf_l2 c) (PR Q) (TPathSum.mk 0 0 0 0 [] [], false) c.Gates.length (fun i hi s t h => by
    have gi := List.getElem?_eq_getElem hi
    refine gate_rl (by omega) hQ gi ?_ h
    rw [← hQ]
    exact List.all_eq_true.1 hall _ (List.getElem_mem hi)) c.Gates.length 0 (by omega) (0, 0, (List.range Q).map fun k => TAffine.mk ((2 ^ k : Nat) : Int) ((0 : Nat) : Int), 0, []) ((Q : Int), 0, 0, 0, ([] : List (Int × Int)), (List.range Q).map fun k => TAffine.mk ((2 ^ k : Nat) : Int) ((0 : Nat) : Int)) ⟨0, _, 0, [], [], rfl, rfl, by omega, hO, hin⟩
  unfold F_spec_l21Of F_impl_PathSumOf
  rw [hQ, Int.toNat_natCast, chk_t (by omega), o1, Option.bind_some, chk_t (by omega), chk_t (by omega), o2, Option.bind_some, chk_t (by omega)]
  rcases loop with ⟨s', u', e1, e2, V, O, ph, T, l, rfl, rfl, hV, hO', hr⟩ | ⟨e1, e2⟩
  · rw [e1, e2]
    obtain ⟨t1, t2⟩ := id_terms hr
    have tt := (terms_ok hr.mp).1
    have hTl := hr.tm.len
    have hOl := hO'.len
    refine ⟨_, _, rfl, fun _ hv => ?_, by simp only; omega, by simp only; omega⟩
    rw [hv]
    simp only [Option.bind_some, Bool.not_true, cond_false, orR, tt, t1, t2]
  · rw [e1, e2]
    refine ⟨_, _, rfl, fun _ hv => ?_, by decide, by decide⟩
    rw [hv]
    rfl

theorem wn_succ {k : Int} (h0 : 0 ≤ k) (h : k + 1 ≤ 9223372036854775807) : IntKind.i64.wrap (k + 1) = k + 1 := wrap_i64 ⟨by omega, by omega⟩
theorem to_GateS (a : List TGate) (h : a.length ≤ 1099511627776) : F_laws_toGateS a = some a := by
  unfold F_laws_toGateS
  rw [chk_t (by omega), chk_t (by omega), forN_fill (a := a) (by simp) (fun i out x hx ho => ?_)]
  · rfl
  · have hi := (List.getElem?_eq_some_iff.1 hx).1
    unfold F_laws_toGateS_l1 F_laws_toGate
    simp [getI_nat, hx, List.getElem?_eq_getElem (show i < out.length by omega)]
theorem sz_GateS (a : List TGate) (left : Int) (h : 0 ≤ left ∧ left ≤ 1048576) (ha : a.length ≤ 9223372036854775807) :
    (∃ s, F_laws_szGateS a left = some s ∧ (0 ≤ s ∧ s ≤ 1048576) ∧ a.length ≤ 1048576) ∨ ∃ s, F_laws_szGateS a left = some s ∧ s < 0 := by
  unfold F_laws_szGateS
  rw [wrap_i64 (a := left - (a.length : Int)) ⟨by omega, by omega⟩]
  by_cases hs : left - (a.length : Int) < 0
  · rw [decide_eq_true hs]; exact .inr ⟨_, rfl, by decide⟩
  · rw [decide_eq_false hs]; exact .inl ⟨_, rfl, ⟨by omega, by omega⟩, by omega⟩
theorem eqr_GateS (a : List TGate) (h : a.length ≤ 1099511627776) : F_laws_eqGateS a a = some true := by
  unfold F_laws_eqGateS
  simp only [bne_self_eq_false, cond_false]
  rw [chk_t (by omega), forX_pass (fun i hi => ?_)]
  · simp [orR]
  · unfold F_laws_eqGateS_l1 F_laws_eqGate
    simp [getI_nat, List.getElem?_eq_getElem hi]
theorem mk_GateS (a : List TGate) (k : Int) (h0 : 0 ≤ k) (h : k ≤ 1152921504606846976) (ha : a.length ≤ 1099511627776) : ∃ m, F_laws_markGateS a k = some (k + a.length * 3, m) := by
  obtain ⟨m, h1, hl, h2⟩ := mark_held (mk := fun (x : TGate) k => TGate.mk k (IntKind.i64.wrap (k + 1)) (IntKind.i64.wrap ((IntKind.i64.wrap (k + 1)) + 1))) (nx := fun k => (IntKind.i64.wrap ((IntKind.i64.wrap ((IntKind.i64.wrap (k + 1)) + 1)) + 1)))
    (f := F_laws_markGateS_l1) (g := (fun (_ : List TGate) (_ : Nat) k => some (Ex.nx (ρ := Int) (IntKind.i64.wrap ((IntKind.i64.wrap ((IntKind.i64.wrap (k + 1)) + 1)) + 1)))))
    (fun i m k x hx => by unfold F_laws_markGateS_l1; simp [getI_nat, hx]) (fun _ _ _ _ _ => rfl) a k
  have hn := iter_add (c := 3) (nx := fun k => (IntKind.i64.wrap ((IntKind.i64.wrap ((IntKind.i64.wrap (k + 1)) + 1)) + 1))) (by omega) (fun k hk hk' => by simp (disch := omega) only [wn_succ] <;> omega) a.length k h0 (by omega)
  exact ⟨m, by unfold F_laws_markGateS; rw [chk_t (by omega), h1, hn]; rfl⟩
theorem to_Circuit (a : TCircuit) (h0 : a.Gates.length ≤ 1099511627776) : F_laws_toCircuit a = some a := by
  unfold F_laws_toCircuit; simp only [to_GateS a.Gates h0, Option.bind_some]
theorem eqr_Circuit (a : TCircuit) (h0 : a.Gates.length ≤ 1099511627776) : F_laws_eqCircuit a a = some true := by
  unfold F_laws_eqCircuit; simp [eqr_GateS a.Gates h0]
theorem sz_Circuit (a : TCircuit) (left : Int) (h : 0 ≤ left ∧ left ≤ 1048576) (h0 : a.Gates.length ≤ 9223372036854775807) :
    (∃ s, F_laws_szCircuit a left = some s ∧ (0 ≤ s ∧ s ≤ 1048576) ∧ a.Gates.length ≤ 1048576) ∨ ∃ s, F_laws_szCircuit a left = some s ∧ s < 0 := by
  unfold F_laws_szCircuit
  rcases sz_GateS a.Gates left h h0 with ⟨s0, e0, b0, t0_0⟩ | ⟨s0, e0, b0⟩
  rotate_left
  · exact .inr ⟨_, by rw [e0]; simp only [Option.bind_some, decide_eq_true b0, cond_true]; first | rfl | skip, by decide⟩
  rw [e0]
  simp only [Option.bind_some, decide_eq_false (show ¬ s0 < 0 by omega), cond_false]
  exact .inl ⟨_, rfl, b0, t0_0⟩
theorem mk_Circuit (a : TCircuit) (k : Int) (h0' : 0 ≤ k) (h : k ≤ 1125899906842624) (h0 : a.Gates.length ≤ 1099511627776) : ∃ m0, F_laws_markCircuit a k = some (k + a.Gates.length * 3, m0) := by
  obtain ⟨m0, e0⟩ := mk_GateS a.Gates (k) (by omega) (by omega) h0
  refine ⟨m0, ?_⟩
  · unfold F_laws_markCircuit; simp only [e0, Option.bind_some]
theorem eqr_TermS (a : List TTerm) (h : a.length ≤ 1099511627776) : F_laws_eqTermS a a = some true := by
  unfold F_laws_eqTermS
  simp only [bne_self_eq_false, cond_false]
  rw [chk_t (by omega), forX_pass (fun i hi => ?_)]
  · simp [orR]
  · unfold F_laws_eqTermS_l1 F_laws_eqTerm
    simp [getI_nat, List.getElem?_eq_getElem hi]
theorem mk_TermS (a : List TTerm) (k : Int) (h0 : 0 ≤ k) (h : k ≤ 1152921504606846976) (ha : a.length ≤ 1099511627776) : ∃ m, F_laws_markTermS a k = some (k + a.length * 2, m) ∧ F_laws_heldTermS m k = some (k + a.length * 2) := by
  obtain ⟨m, h1, hl, h2⟩ := mark_held (mk := fun (x : TTerm) k => TTerm.mk k (IntKind.i64.wrap (k + 1))) (nx := fun k => (IntKind.i64.wrap ((IntKind.i64.wrap (k + 1)) + 1)))
    (f := F_laws_markTermS_l1) (g := F_laws_heldTermS_l1)
    (fun i m k x hx => by unfold F_laws_markTermS_l1; simp [getI_nat, hx]) (fun m i k x hx => by unfold F_laws_heldTermS_l1; simp [getI_nat, hx]) a k
  have hn := iter_add (c := 2) (nx := fun k => (IntKind.i64.wrap ((IntKind.i64.wrap (k + 1)) + 1))) (by omega) (fun k hk hk' => by simp (disch := omega) only [wn_succ] <;> omega) a.length k h0 (by omega)
  refine ⟨m, ?_, ?_⟩
  · unfold F_laws_markTermS; rw [chk_t (by omega), h1, hn]; rfl
  · unfold F_laws_heldTermS; rw [chk_t (by omega), h2, hn]; rfl
theorem eqr_AffineS (a : List TAffine) (h : a.length ≤ 1099511627776) : F_laws_eqAffineS a a = some true := by
  unfold F_laws_eqAffineS
  simp only [bne_self_eq_false, cond_false]
  rw [chk_t (by omega), forX_pass (fun i hi => ?_)]
  · simp [orR]
  · unfold F_laws_eqAffineS_l1 F_laws_eqAffine
    simp [getI_nat, List.getElem?_eq_getElem hi]
theorem mk_AffineS (a : List TAffine) (k : Int) (h0 : 0 ≤ k) (h : k ≤ 1152921504606846976) (ha : a.length ≤ 1099511627776) : ∃ m, F_laws_markAffineS a k = some (k + a.length * 2, m) ∧ F_laws_heldAffineS m k = some (k + a.length * 2) := by
  obtain ⟨m, h1, hl, h2⟩ := mark_held (mk := fun (x : TAffine) k => TAffine.mk k (IntKind.i64.wrap (k + 1))) (nx := fun k => (IntKind.i64.wrap ((IntKind.i64.wrap (k + 1)) + 1)))
    (f := F_laws_markAffineS_l1) (g := F_laws_heldAffineS_l1)
    (fun i m k x hx => by unfold F_laws_markAffineS_l1; simp [getI_nat, hx]) (fun m i k x hx => by unfold F_laws_heldAffineS_l1; simp [getI_nat, hx]) a k
  have hn := iter_add (c := 2) (nx := fun k => (IntKind.i64.wrap ((IntKind.i64.wrap (k + 1)) + 1))) (by omega) (fun k hk hk' => by simp (disch := omega) only [wn_succ] <;> omega) a.length k h0 (by omega)
  refine ⟨m, ?_, ?_⟩
  · unfold F_laws_markAffineS; rw [chk_t (by omega), h1, hn]; rfl
  · unfold F_laws_heldAffineS; rw [chk_t (by omega), h2, hn]; rfl
theorem eqr_PathSum (a : TPathSum) (h0 : a.Terms.length ≤ 1099511627776) (h1 : a.Out.length ≤ 1099511627776) : F_laws_eqPathSum a a = some true := by
  unfold F_laws_eqPathSum; simp [eqr_TermS a.Terms h0, eqr_AffineS a.Out h1]
theorem mk_PathSum (a : TPathSum) (k : Int) (h0' : 0 ≤ k) (h : k ≤ 1125899906842624) (h0 : a.Terms.length ≤ 1099511627776) (h1 : a.Out.length ≤ 1099511627776) : ∃ m0 m1, F_laws_markPathSum a k = some (k + a.Terms.length * 2 + a.Out.length * 2, m0, m1) ∧ F_laws_heldPathSum (TPathSum.mk a.Ins a.Vars a.Root a.Phase m0 m1) k = some (k + a.Terms.length * 2 + a.Out.length * 2) := by
  obtain ⟨m0, e0, g0⟩ := mk_TermS a.Terms (k) (by omega) (by omega) h0
  obtain ⟨m1, e1, g1⟩ := mk_AffineS a.Out (k + a.Terms.length * 2) (by omega) (by omega) h1
  refine ⟨m0, m1, ?_, ?_⟩
  · unfold F_laws_markPathSum; simp only [e0, e1, Option.bind_some]
  · unfold F_laws_heldPathSum; simp only
    rw [g0]; simp only [Option.bind_some]
    rw [show decide (k + (a.Terms.length : Int) * 2 < 0) = false from decide_eq_false (by omega)]; simp only [cond_false]
    rw [g1]; simp only [Option.bind_some]
    rw [show decide (k + (a.Terms.length : Int) * 2 + (a.Out.length : Int) * 2 < 0) = false from decide_eq_false (by omega)]; simp only [cond_false]
/-- The law, where the two answer alike. -/
theorem law_of (a0 : TCircuit) (ok0 : ok_Circuit a0) (hb : a0.Gates.length ≤ 1048576 → ∃ (r0 : TPathSum) (r1 : Bool), F_spec_PathSumOf a0 = some (r0, r1) ∧ F_impl_PathSumOf a0 = some (r0, r1) ∧ r0.Terms.length ≤ 1099511627776 ∧ r0.Out.length ≤ 1099511627776) : F_laws_FnExactPathSumOf a0 = some true := by
  unfold F_laws_FnExactPathSumOf
  rcases sz_Circuit a0 1048576 ⟨by decide, by decide⟩ ok0.2.1 with ⟨s0, e0, b0, t0_0⟩ | ⟨s0, e0, b0⟩
  rotate_left
  · simp only [e0, Option.bind_some, decide_eq_true b0, cond_true]
  obtain ⟨r0, r1, hs, hi, m0, m1⟩ := hb t0_0
  obtain ⟨ka0, ma0_0, fa0, ga0⟩ : ∃ k' ma0_0, F_laws_markCircuit a0 (1) = some (k', ma0_0) ∧ 0 ≤ k' ∧ k' ≤ 1 + 35184372088832 := by
    obtain ⟨ma0_0, e⟩ := mk_Circuit a0 (1) (by omega) (by omega) (by omega)
    exact ⟨_, ma0_0, e, by omega, by omega⟩
  obtain ⟨kr0, mr0_0, mr0_1, fr0, gr0, hr0⟩ : ∃ k' mr0_0 mr0_1, F_laws_markPathSum r0 (1) = some (k', mr0_0, mr0_1) ∧ F_laws_heldPathSum (TPathSum.mk r0.Ins r0.Vars r0.Root r0.Phase mr0_0 mr0_1) (1) = some k' ∧ (0 ≤ k' ∧ k' ≤ 1 + 35184372088832) := by
    obtain ⟨mr0_0, mr0_1, e, g⟩ := mk_PathSum r0 (1) (by omega) (by omega) m0 m1
    exact ⟨_, mr0_0, mr0_1, e, g, by omega, by omega⟩
  simp only [e0, decide_eq_false (show ¬ s0 < 0 by omega), cond_false, Option.bind_some, to_Circuit a0 (by omega), eqr_Circuit a0 (by omega), fa0, decide_eq_false (show ¬ ka0 < 0 by omega), hs, hi, eqr_PathSum r0 m0 m1, fr0, gr0, decide_eq_false (show ¬ kr0 < 0 by omega), cond_true, gb, Bool.not_true, Bool.not_false, Bool.or_false, Bool.false_or, Bool.or_self, beq_self_eq_true, bne_self_eq_false]
theorem law_FnExactPathSumOf (a0 : TCircuit) (ok0 : ok_Circuit a0) : F_laws_FnExactPathSumOf a0 = some true := by
  refine law_of a0 ok0 (fun h0 => ?_)
  unfold F_spec_PathSumOf
  have hi := impl_good a0 (by omega)
  rw [spec_good]
  cases hb : cOk a0 with
  | false =>
    rw [hb] at hi
    refine ⟨TPathSum.mk 0 0 0 0 [] [], false, rfl, ?_, by decide, by decide⟩
    unfold F_impl_PathSumOf
    rw [hi]; rfl
  | true =>
    rw [hb] at hi
    obtain ⟨r, b, h1, h2, h3, h4⟩ := of_both hb
    refine ⟨r, b, ?_, h2 (r, b) hi, h3, h4⟩
    simp only [Option.bind_some, Bool.not_true, cond_false]
    rw [h1]; rfl
end Go.VK
