/- The plain law of FnExactReducePathSum: what its Lean function answers, for all arguments. -/
import Derived.Test.YtklicjfbpikobaaDoorReducePathSumFn
import Derived.Test.YtklicjfbpikobaaDoorLibI
set_option maxRecDepth 10000
set_option maxHeartbeats 1000000
set_option linter.unusedSimpArgs false
set_option linter.unusedVariables false
namespace Go.VK
/-- What the specification holds (z, and its flag b') beside the number o (or none): the flag before is b; once it is set, it stays. -/
def SR {α : Type} (G : α → Prop) (o : Option α) (b : Bool) (z : α) (b' : Bool) : Prop := G z ∧ (b = true → b' = true) ∧ (b = false → (o = some z ∧ b' = false) ∨ (o = none ∧ b' = true))
theorem SR.bind {α β : Type} {G : α → Prop} {G' : β → Prop} {o : Option α} {o' : α → Option β} {b b' b'' : Bool} {z : α} {z' : β} (h1 : SR G o b z b') (h2 : SR G' (o' z) b' z' b'') : SR G' (o.bind o') b z' b'' := by
  refine ⟨h2.1, fun h => h2.2.1 (h1.2.1 h), fun h => ?_⟩
  rcases h1.2.2 h with ⟨rfl, rfl⟩ | ⟨rfl, rfl⟩
  · exact h2.2.2 rfl
  · exact .inr ⟨rfl, h2.2.1 rfl⟩
theorem SR.bad {α : Type} {G : α → Prop} {o : Option α} {z : α} {b' : Bool} (h : SR G o true z b') : b' = true := h.2.1 rfl
theorem SR.map {α β : Type} {G : α → Prop} {G' : β → Prop} {o : Option α} {b b' : Bool} {z : α} (h : SR G o b z b') (g : α → β) (hg : G z → G' (g z)) : SR G' (o.map g) b (g z) b' := by
  refine ⟨hg h.1, h.2.1, fun hb => ?_⟩
  rcases h.2.2 hb with ⟨rfl, h2⟩ | ⟨rfl, h2⟩
  · exact .inl ⟨rfl, h2⟩
  · exact .inr ⟨rfl, h2⟩
/-- The rows of a map over n wires, each a number below N. -/
def RowsOk (n N : Nat) (R : List Int) : Prop := R.length = n ∧ ∀ x ∈ R, 0 ≤ x ∧ x < N
theorem RowsOk.set {n N : Nat} {R : List Int} (h : RowsOk n N R) (i : Nat) {x : Nat} (hx : x < N) : RowsOk n N (R.set i (x : Int)) :=
  ⟨by rw [List.length_set]; exact h.1, fun y hy => by
    rcases List.mem_or_eq_of_mem_set hy with hy | rfl
    · exact h.2 y hy
    · omega⟩
theorem fuelB {n : Nat} (h : n < 18446744073709551616) : n < fuel := h
/-- Small numbers as words. -/
def cI (l : List Nat) : List Int := l.map fun (x : Nat) => (x : Int)
theorem cI_len (l : List Nat) : (cI l).length = l.length := by simp [cI]
theorem cI_get {l : List Nat} {i x : Nat} (h : l[i]? = some x) : getI (cI l) (i : Int) = some (x : Int) := by
  rw [getI_nat]; simp [cI, h]
theorem tb_small : ∀ (x : Fin 32) (b : Fin 10), ((bits .and .i64 (shrK .i64 (x.val : Int) (b.val : Int)) 1) == 1) = x.val.testBit b.val := by decide +kernel
theorem tb {x b : Nat} (hx : x < 32) (hb : b < 10) : ((bits .and .i64 (shrK .i64 (x : Int) (b : Int)) 1) == 1) = x.testBit b := tb_small ⟨x, hx⟩ ⟨b, hb⟩
theorem wru' {a : Nat} (h : a < 1000) : IntKind.u64.wrap (a : Int) = (a : Int) := by
  simp [IntKind.wrap, IntKind.signed, IntKind.bits]
  omega
theorem mask_mono {T : List TTerm} (h : ∀ (i : Nat) x y, T[i]? = some x → T[i + 1]? = some y → x.Mask < y.Mask) : ∀ (d i : Nat) x y, T[i]? = some x → T[i + (d + 1)]? = some y → x.Mask < y.Mask
  | 0, i, x, y, hx, hy => h i x y hx hy
  | d + 1, i, x, y, hx, hy => by
    have hl := (List.getElem?_eq_some_iff.1 hy).1
    have hz := List.getElem?_eq_getElem (show i + (d + 1) < T.length by omega)
    have h1 := mask_mono h d i x _ hx hz
    have h2 := h (i + (d + 1)) _ y hz hy
    omega
theorem wrapU {a : Nat} (h : a < 18446744073709551616) : IntKind.u64.wrap (a : Int) = (a : Int) := by
  simp [IntKind.wrap, IntKind.signed, IntKind.bits]
  omega
theorem shr_u (x k : Nat) (hk : k ≤ 64) : shrK .u64 (x : Int) (k : Int) = ((x / 2 ^ k : Nat) : Int) := by
  unfold shrK
  rw [Int.toNat_natCast, Nat.min_eq_left (show k ≤ IntKind.bits .u64 from hk), Int.ofNat_fdiv]
  simp
theorem shr_i (x k : Nat) (hk : k ≤ 64) : shrK .i64 (x : Int) (k : Int) = ((x / 2 ^ k : Nat) : Int) := by
  unfold shrK
  rw [Int.toNat_natCast, Nat.min_eq_left (show k ≤ IntKind.bits .i64 from hk), Int.ofNat_fdiv]
  simp
theorem and_u {a b : Nat} (ha : a < 18446744073709551616) (hb : b < 18446744073709551616) : bits .and .u64 (a : Int) (b : Int) = ((a &&& b : Nat) : Int) := by
  have h1 : a &&& b ≤ a := Nat.and_le_left
  show IntKind.u64.wrap ((BitVec.ofInt 64 (a : Int) &&& BitVec.ofInt 64 (b : Int)).toNat : Int) = _
  have e1 : BitVec.ofInt 64 (a : Int) = BitVec.ofNat 64 a := rfl
  have e2 : BitVec.ofInt 64 (b : Int) = BitVec.ofNat 64 b := rfl
  rw [e1, e2, BitVec.toNat_and, BitVec.toNat_ofNat, BitVec.toNat_ofNat, Nat.mod_eq_of_lt (by omega), Nat.mod_eq_of_lt (by omega)]
  exact wrapU (by omega)
theorem and_i {a b : Nat} (ha : a < 9223372036854775808) (hb : b < 9223372036854775808) : bits .and .i64 (a : Int) (b : Int) = ((a &&& b : Nat) : Int) := by
  have h1 : a &&& b ≤ a := Nat.and_le_left
  show IntKind.i64.wrap ((BitVec.ofInt 64 (a : Int) &&& BitVec.ofInt 64 (b : Int)).toNat : Int) = _
  have e1 : BitVec.ofInt 64 (a : Int) = BitVec.ofNat 64 a := rfl
  have e2 : BitVec.ofInt 64 (b : Int) = BitVec.ofNat 64 b := rfl
  rw [e1, e2, BitVec.toNat_and, BitVec.toNat_ofNat, BitVec.toNat_ofNat, Nat.mod_eq_of_lt (by omega), Nat.mod_eq_of_lt (by omega)]
  exact wrap_i64 ⟨by omega, by omega⟩
theorem and_step (k : Nat) {d c : Nat} (y M : Nat) (hd : d < 2 ^ k) (hc : c < 2 ^ k) : (d + 2 ^ k * y) &&& (c + 2 ^ k * M) = (d &&& c) + 2 ^ k * (y &&& M) := by
  have hdc : d &&& c < 2 ^ k := Nat.and_lt_two_pow d hc
  apply Nat.eq_of_testBit_eq
  intro j
  rw [Nat.add_comm d, Nat.add_comm c, Nat.add_comm (d &&& c), Nat.testBit_and, Nat.testBit_two_pow_mul_add _ hd, Nat.testBit_two_pow_mul_add _ hc, Nat.testBit_two_pow_mul_add _ hdc]
  by_cases h : j < k
  · rw [if_pos h, if_pos h, if_pos h, Nat.testBit_and]
  · rw [if_neg h, if_neg h, if_neg h, Nat.testBit_and]
def val : List Nat → Nat
  | [] => 0
  | d :: t => d + 16 * val t
def mskN (c : Nat) : Nat → Nat
  | 0 => 0
  | n + 1 => c + 16 * mskN c n
def a4 (d : Nat) : Nat := (d / 2 &&& 5) + (d &&& 5)
def b4 (d : Nat) : Nat := (d / 4 &&& 3) + (d &&& 3)
def c4 (d : Nat) : Nat := b4 (a4 d)
theorem a4_lt : ∀ d : Fin 16, a4 d.val < 16 ∧ c4 d.val ≤ 4 ∧ ∀ e : Fin 2, (d.val / 2 + 8 * e.val) &&& 5 = d.val / 2 &&& 5 := by decide
theorem b4_lt : ∀ d : Fin 16, ∀ e : Fin 4, (d.val / 4 + 4 * e.val) &&& 3 = d.val / 4 &&& 3 := by decide
theorem stA : ∀ (ds : List Nat) (n : Nat), ds.length ≤ n → (∀ d ∈ ds, d < 16) → (val ds / 2 &&& mskN 5 n) + (val ds &&& mskN 5 n) = val (ds.map a4)
  | [], n, _, _ => by simp [val]
  | d :: t, 0, h, _ => absurd h (by simp)
  | d :: t, n + 1, h, hd => by
    have hd16 := hd d (List.mem_cons_self ..)
    have ih := stA t n (by simpa using h) (fun x hx => hd x (List.mem_cons_of_mem _ hx))
    have e1 : (d + 16 * val t) / 2 = (d / 2 + 8 * (val t % 2)) + 2 ^ 4 * (val t / 2) := by omega
    have e2 := (a4_lt ⟨d, hd16⟩).2.2 ⟨val t % 2, Nat.mod_lt _ (by decide)⟩
    simp only at e2
    have e3 := and_step 4 (d := d / 2 + 8 * (val t % 2)) (c := 5) (val t / 2) (mskN 5 n) (by omega) (by decide)
    have e4 := and_step 4 (d := d) (c := 5) (val t) (mskN 5 n) (by omega) (by decide)
    show ((d + 16 * val t) / 2 &&& (5 + 16 * mskN 5 n)) + ((d + 16 * val t) &&& (5 + 16 * mskN 5 n)) = a4 d + 16 * val (t.map a4)
    rw [e1, show (5 + 16 * mskN 5 n) = 5 + 2 ^ 4 * mskN 5 n from rfl, e3, show d + 16 * val t = d + 2 ^ 4 * val t from rfl, e4, e2, ← ih]
    unfold a4
    omega
theorem stB : ∀ (ds : List Nat) (n : Nat), ds.length ≤ n → (∀ d ∈ ds, d < 16) → (val ds / 4 &&& mskN 3 n) + (val ds &&& mskN 3 n) = val (ds.map b4)
  | [], n, _, _ => by simp [val]
  | d :: t, 0, h, _ => absurd h (by simp)
  | d :: t, n + 1, h, hd => by
    have hd16 := hd d (List.mem_cons_self ..)
    have ih := stB t n (by simpa using h) (fun x hx => hd x (List.mem_cons_of_mem _ hx))
    have e1 : (d + 16 * val t) / 4 = (d / 4 + 4 * (val t % 4)) + 2 ^ 4 * (val t / 4) := by omega
    have e2 := b4_lt ⟨d, hd16⟩ ⟨val t % 4, Nat.mod_lt _ (by decide)⟩
    simp only at e2
    have e3 := and_step 4 (d := d / 4 + 4 * (val t % 4)) (c := 3) (val t / 4) (mskN 3 n) (by omega) (by decide)
    have e4 := and_step 4 (d := d) (c := 3) (val t) (mskN 3 n) (by omega) (by decide)
    show ((d + 16 * val t) / 4 &&& (3 + 16 * mskN 3 n)) + ((d + 16 * val t) &&& (3 + 16 * mskN 3 n)) = b4 d + 16 * val (t.map b4)
    rw [e1, show (3 + 16 * mskN 3 n) = 3 + 2 ^ 4 * mskN 3 n from rfl, e3, show d + 16 * val t = d + 2 ^ 4 * val t from rfl, e4, e2, ← ih]
    unfold b4
    omega
theorem byte15 {p q : Nat} (h : p < 16) : (p + 16 * q) &&& 15 = p := by
  rw [show (15 : Nat) = 2 ^ 4 - 1 from rfl, Nat.and_two_pow_sub_one_eq_mod]
  omega
def pA (x : Int) : Int := IntKind.u64.wrap (bits .and .u64 (shrK .u64 x 1) 6148914691236517205 + bits .and .u64 x 6148914691236517205)
def pB (x : Int) : Int := IntKind.u64.wrap (bits .and .u64 (shrK .u64 x 2) 3689348814741910323 + bits .and .u64 x 3689348814741910323)
def pC (x : Int) : Int := bits .and .u64 (IntKind.u64.wrap (shrK .u64 x 4 + x)) 1085102592571150095
def pD (x : Int) : Int := IntKind.u64.wrap (x + shrK .u64 x 8)
def pE (x : Int) : Int := IntKind.u64.wrap (x + shrK .u64 x 16)
def pF (x : Int) : Int := IntKind.u64.wrap (x + shrK .u64 x 32)
def pG (x : Int) : Int := bits .and .i64 (IntKind.i64.wrap x) 127
theorem ones_staged (x : Int) : F_math_bits_OnesCount64 x = some (pG (pF (pE (pD (pC (pB (pA x))))))) := rfl
theorem val_lt {d0 d1 d2 d3 d4 d5 d6 d7 : Nat} (h0 : d0 < 16) (h1 : d1 < 16) (h2 : d2 < 16) (h3 : d3 < 16) (h4 : d4 < 16) (h5 : d5 < 16) (h6 : d6 < 16) (h7 : d7 < 16) : val [d0, d1, d2, d3, d4, d5, d6, d7] < 4294967296 := by
  simp only [val]; omega
theorem pA_eq {x A : Nat} (hx : x < 4294967296) (hA : A < 4294967296) (h : (x / 2 &&& 6148914691236517205) + (x &&& 6148914691236517205) = A) : pA (x : Int) = (A : Int) := by
  unfold pA
  have h2 : x / 2 < 18446744073709551616 := by omega
  have h1 : x < 18446744073709551616 := by omega
  rw [show (1 : Int) = ((1 : Nat) : Int) from rfl, shr_u x 1 (by decide), show (6148914691236517205 : Int) = ((6148914691236517205 : Nat) : Int) from rfl, show x / 2 ^ 1 = x / 2 from rfl, and_u h2 (by decide), and_u h1 (by decide), ← Int.natCast_add, h]
  exact wrapU (by omega)
theorem pB_eq {x A : Nat} (hx : x < 4294967296) (hA : A < 4294967296) (h : (x / 4 &&& 3689348814741910323) + (x &&& 3689348814741910323) = A) : pB (x : Int) = (A : Int) := by
  unfold pB
  have h2 : x / 4 < 18446744073709551616 := by omega
  have h1 : x < 18446744073709551616 := by omega
  rw [show (2 : Int) = ((2 : Nat) : Int) from rfl, shr_u x 2 (by decide), show (3689348814741910323 : Int) = ((3689348814741910323 : Nat) : Int) from rfl, show x / 2 ^ 2 = x / 4 from rfl, and_u h2 (by decide), and_u h1 (by decide), ← Int.natCast_add, h]
  exact wrapU (by omega)
theorem hC_eq {p0 p1 p2 p3 p4 p5 p6 p7 B : Nat} (n0 : p0 ≤ 4) (n1 : p1 ≤ 4) (n2 : p2 ≤ 4) (n3 : p3 ≤ 4) (n4 : p4 ≤ 4) (n5 : p5 ≤ 4) (n6 : p6 ≤ 4) (n7 : p7 ≤ 4) (hB : B = p0 + 16 * (p1 + 16 * (p2 + 16 * (p3 + 16 * (p4 + 16 * (p5 + 16 * (p6 + 16 * p7))))))) :
    (B / 16 + B) &&& 1085102592571150095 = (p0 + p1) + 256 * ((p2 + p3) + 256 * ((p4 + p5) + 256 * (p6 + p7))) := by
  have e : B / 16 + B = ((p0 + p1) + 16 * (p1 + p2)) + 2 ^ 8 * (((p2 + p3) + 16 * (p3 + p4)) + 2 ^ 8 * (((p4 + p5) + 16 * (p5 + p6)) + 2 ^ 8 * (((p6 + p7) + 16 * p7) + 2 ^ 8 * 0))) := by
    have : B / 16 = p1 + 16 * (p2 + 16 * (p3 + 16 * (p4 + 16 * (p5 + 16 * (p6 + 16 * p7))))) := by omega
    rw [this, hB]; clear this hB; omega
  have a0 : p0 + p1 + 16 * (p1 + p2) < 2 ^ 8 := by clear e hB; omega
  have a1 : p2 + p3 + 16 * (p3 + p4) < 2 ^ 8 := by clear e hB; omega
  have a2 : p4 + p5 + 16 * (p5 + p6) < 2 ^ 8 := by clear e hB; omega
  have a3 : p6 + p7 + 16 * p7 < 2 ^ 8 := by clear e hB; omega
  have b0 : p0 + p1 < 16 := by clear e hB; omega
  have b1 : p2 + p3 < 16 := by clear e hB; omega
  have b2 : p4 + p5 < 16 := by clear e hB; omega
  have b3 : p6 + p7 < 16 := by clear e hB; omega
  rw [e, show (1085102592571150095 : Nat) = 15 + 2 ^ 8 * (15 + 2 ^ 8 * (15 + 2 ^ 8 * (15 + 2 ^ 8 * 252645135))) from rfl, and_step 8 _ _ a0 (by decide), and_step 8 _ _ a1 (by decide), and_step 8 _ _ a2 (by decide), and_step 8 _ _ a3 (by decide),
    byte15 b0, byte15 b1, byte15 b2, byte15 b3, Nat.zero_and, Nat.mul_zero, Nat.add_zero]
theorem pC_eq {B C : Nat} (hB : B < 4294967296) (h : (B / 16 + B) &&& 1085102592571150095 = C) : pC (B : Int) = (C : Int) := by
  unfold pC
  have h1 : B / 16 + B < 18446744073709551616 := by omega
  rw [show (4 : Int) = ((4 : Nat) : Int) from rfl, shr_u B 4 (by decide), ← Int.natCast_add, show B / 2 ^ 4 = B / 16 from rfl, wrapU h1, show (1085102592571150095 : Int) = ((1085102592571150095 : Nat) : Int) from rfl, and_u h1 (by decide), h]
theorem pD_eq {C : Nat} (h : C < 4294967296) : pD (C : Int) = ((C + C / 256 : Nat) : Int) := by
  unfold pD
  rw [show (8 : Int) = ((8 : Nat) : Int) from rfl, shr_u C 8 (by decide), ← Int.natCast_add, show C / 2 ^ 8 = C / 256 from rfl, wrapU (by omega)]
theorem pE_eq {C : Nat} (h : C < 8589934592) : pE (C : Int) = ((C + C / 65536 : Nat) : Int) := by
  unfold pE
  rw [show (16 : Int) = ((16 : Nat) : Int) from rfl, shr_u C 16 (by decide), ← Int.natCast_add, show C / 2 ^ 16 = C / 65536 from rfl, wrapU (by omega)]
theorem pF_eq {C : Nat} (h : C < 17179869184) : pF (C : Int) = ((C + C / 4294967296 : Nat) : Int) := by
  unfold pF
  rw [show (32 : Int) = ((32 : Nat) : Int) from rfl, shr_u C 32 (by decide), ← Int.natCast_add, show C / 2 ^ 32 = C / 4294967296 from rfl, wrapU (by omega)]
theorem pG_eq {C : Nat} (h : C < 34359738368) : pG (C : Int) = ((C % 128 : Nat) : Int) := by
  unfold pG
  rw [wrap_i64 ⟨by omega, by omega⟩, show (127 : Int) = ((127 : Nat) : Int) from rfl, and_i (by omega) (by decide), show (127 : Nat) = 2 ^ 7 - 1 from rfl, Nat.and_two_pow_sub_one_eq_mod]
theorem sum_eq {q0 q1 q2 q3 : Nat} (h0 : q0 ≤ 8) (h1 : q1 ≤ 8) (h2 : q2 ≤ 8) (h3 : q3 ≤ 8) {C D E F : Nat} (hC : C = q0 + 256 * (q1 + 256 * (q2 + 256 * q3))) (hD : D = C + C / 256) (hE : E = D + D / 65536) (hF : F = E + E / 4294967296) :
    F % 128 = q0 + q1 + q2 + q3 ∧ C < 4294967296 ∧ D < 8589934592 ∧ E < 17179869184 ∧ F < 34359738368 := by
  have c1 : C / 256 = q1 + 256 * (q2 + 256 * q3) := by omega
  have d1 : D = (q0 + q1) + 256 * ((q1 + q2) + 256 * ((q2 + q3) + 256 * q3)) := by rw [hD, c1, hC]; omega
  clear hD c1
  have d2 : D / 65536 = (q2 + q3) + 256 * q3 := by rw [d1]; omega
  have e1 : E = (q0 + q1 + q2 + q3) + 256 * ((q1 + q2 + q3) + 256 * ((q2 + q3) + 256 * q3)) := by rw [hE, d2, d1]; omega
  clear hE d2
  have e2 : E / 4294967296 = 0 := by rw [e1]; omega
  have f1 : F = E := by rw [hF, e2]; omega
  clear hF e2
  refine ⟨?_, by omega, by omega, by omega, by omega⟩
  rw [f1, e1]; clear f1 e1 d1 hC; omega
/-- The sum of the bits in the eight parts of four. -/
theorem ones_val {d0 d1 d2 d3 d4 d5 d6 d7 : Nat} (h0 : d0 < 16) (h1 : d1 < 16) (h2 : d2 < 16) (h3 : d3 < 16) (h4 : d4 < 16) (h5 : d5 < 16) (h6 : d6 < 16) (h7 : d7 < 16) :
    F_math_bits_OnesCount64 ((val [d0, d1, d2, d3, d4, d5, d6, d7] : Nat) : Int) = some ((c4 d0 + c4 d1 + c4 d2 + c4 d3 + c4 d4 + c4 d5 + c4 d6 + c4 d7 : Nat) : Int) := by
  have hall : ∀ d ∈ [d0, d1, d2, d3, d4, d5, d6, d7], d < 16 := by
    intro d hd
    simp only [List.mem_cons, List.not_mem_nil, or_false] at hd
    rcases hd with rfl | rfl | rfl | rfl | rfl | rfl | rfl | rfl <;> assumption
  have hA := stA [d0, d1, d2, d3, d4, d5, d6, d7] 16 (by simp) hall
  have hallA : ∀ d ∈ [d0, d1, d2, d3, d4, d5, d6, d7].map a4, d < 16 := by
    intro d hd
    obtain ⟨e, he, rfl⟩ := List.mem_map.1 hd
    exact (a4_lt ⟨e, hall e he⟩).1
  have hB := stB ([d0, d1, d2, d3, d4, d5, d6, d7].map a4) 16 (by simp) hallA
  have hx := val_lt h0 h1 h2 h3 h4 h5 h6 h7
  have hAlt : val ([d0, d1, d2, d3, d4, d5, d6, d7].map a4) < 4294967296 := val_lt (a4_lt ⟨d0, h0⟩).1 (a4_lt ⟨d1, h1⟩).1 (a4_lt ⟨d2, h2⟩).1 (a4_lt ⟨d3, h3⟩).1 (a4_lt ⟨d4, h4⟩).1 (a4_lt ⟨d5, h5⟩).1 (a4_lt ⟨d6, h6⟩).1 (a4_lt ⟨d7, h7⟩).1
  have m5 : mskN 5 16 = 6148914691236517205 := by decide
  have m3 : mskN 3 16 = 3689348814741910323 := by decide
  rw [m5] at hA
  rw [m3] at hB
  have n0 : c4 d0 ≤ 4 := (a4_lt ⟨d0, h0⟩).2.1
  have n1 : c4 d1 ≤ 4 := (a4_lt ⟨d1, h1⟩).2.1
  have n2 : c4 d2 ≤ 4 := (a4_lt ⟨d2, h2⟩).2.1
  have n3 : c4 d3 ≤ 4 := (a4_lt ⟨d3, h3⟩).2.1
  have n4 : c4 d4 ≤ 4 := (a4_lt ⟨d4, h4⟩).2.1
  have n5 : c4 d5 ≤ 4 := (a4_lt ⟨d5, h5⟩).2.1
  have n6 : c4 d6 ≤ 4 := (a4_lt ⟨d6, h6⟩).2.1
  have n7 : c4 d7 ≤ 4 := (a4_lt ⟨d7, h7⟩).2.1
  have hBv : val (([d0, d1, d2, d3, d4, d5, d6, d7].map a4).map b4) = c4 d0 + 16 * (c4 d1 + 16 * (c4 d2 + 16 * (c4 d3 + 16 * (c4 d4 + 16 * (c4 d5 + 16 * (c4 d6 + 16 * c4 d7)))))) := by
    show c4 d0 + 16 * (c4 d1 + 16 * (c4 d2 + 16 * (c4 d3 + 16 * (c4 d4 + 16 * (c4 d5 + 16 * (c4 d6 + 16 * (c4 d7 + 16 * 0))))))) = _
    rw [Nat.mul_zero, Nat.add_zero]
  have hBlt := val_lt (Nat.lt_of_le_of_lt n0 (by decide)) (Nat.lt_of_le_of_lt n1 (by decide)) (Nat.lt_of_le_of_lt n2 (by decide)) (Nat.lt_of_le_of_lt n3 (by decide)) (Nat.lt_of_le_of_lt n4 (by decide)) (Nat.lt_of_le_of_lt n5 (by decide)) (Nat.lt_of_le_of_lt n6 (by decide)) (Nat.lt_of_le_of_lt n7 (by decide))
  have hBe : val [c4 d0, c4 d1, c4 d2, c4 d3, c4 d4, c4 d5, c4 d6, c4 d7] = val (([d0, d1, d2, d3, d4, d5, d6, d7].map a4).map b4) := rfl
  rw [hBe] at hBlt
  rw [ones_staged, pA_eq hx hAlt hA, pB_eq hAlt hBlt hB, pC_eq hBlt (hC_eq n0 n1 n2 n3 n4 n5 n6 n7 hBv)]
  have e8 : ∀ {a b : Nat}, a ≤ 4 → b ≤ 4 → a + b ≤ 8 := fun h h' => Nat.add_le_add h h'
  obtain ⟨s1, s2, s3, s4, s5⟩ := sum_eq (e8 n0 n1) (e8 n2 n3) (e8 n4 n5) (e8 n6 n7) rfl rfl rfl rfl
  rw [pD_eq s2, pE_eq s3, pF_eq s4, pG_eq s5, s1]
  simp only [Nat.add_assoc]
def setW (x : Nat) (n : Nat) : List Nat := (List.range n).filter fun k => x.testBit k
theorem c4_eq : ∀ d : Fin 16, (setW d.val 4).length = c4 d.val := by decide
theorem setW_split (x n : Nat) : (setW x (n + 4)).length = c4 (x % 16) + (setW (x / 16) n).length := by
  rw [← c4_eq ⟨x % 16, Nat.mod_lt _ (by decide)⟩]
  unfold setW
  rw [show n + 4 = n + 1 + 1 + 1 + 1 from rfl, List.range_succ_eq_map, List.range_succ_eq_map, List.range_succ_eq_map, List.range_succ_eq_map]
  simp only [List.map_cons, List.map_map]
  have hlow : ∀ k : Nat, k < 4 → x.testBit k = (x % 16).testBit k := fun k hk => by
    rw [show (16 : Nat) = 2 ^ 4 from rfl, Nat.testBit_mod_two_pow]
    simp [hk]
  have hhigh : ((List.range n).map (Nat.succ ∘ Nat.succ ∘ Nat.succ ∘ Nat.succ)).filter (fun k => x.testBit k) = ((List.range n).filter fun k => (x / 16).testBit k).map (Nat.succ ∘ Nat.succ ∘ Nat.succ ∘ Nat.succ) := by
    rw [List.filter_map]
    congr 1
    apply List.filter_congr
    intro k _
    show x.testBit (k + 4) = (x / 16).testBit k
    rw [Nat.testBit_add]
  have hr4 : List.range 4 = [0, 1, 2, 3] := by decide
  rw [hr4]
  simp only [List.filter_cons]
  rw [show Nat.succ 0 = 1 from rfl, show Nat.succ 1 = 2 from rfl, show Nat.succ 2 = 3 from rfl]
  rw [hlow 0 (by decide), hlow 1 (by decide), hlow 2 (by decide), hlow 3 (by decide)]
  have hhigh' := congrArg List.length hhigh
  rw [List.length_map] at hhigh'
  cases (x % 16).testBit 0 <;> cases (x % 16).testBit 1 <;> cases (x % 16).testBit 2 <;> cases (x % 16).testBit 3 <;> simp [hhigh'] <;> omega
theorem ones_eq {x : Nat} (hx : x < 4294967296) : F_math_bits_OnesCount64 (x : Int) = some (((setW x 32).length : Nat) : Int) := by
  have hv : x = val [x % 16, x / 16 % 16, x / 16 / 16 % 16, x / 16 / 16 / 16 % 16, x / 16 / 16 / 16 / 16 % 16, x / 16 / 16 / 16 / 16 / 16 % 16, x / 16 / 16 / 16 / 16 / 16 / 16 % 16, x / 16 / 16 / 16 / 16 / 16 / 16 / 16 % 16] := by
    simp only [val]; omega
  have hm : ∀ y : Nat, y % 16 < 16 := fun y => Nat.mod_lt _ (by decide)
  have h := ones_val (hm x) (hm (x / 16)) (hm (x / 16 / 16)) (hm (x / 16 / 16 / 16)) (hm (x / 16 / 16 / 16 / 16)) (hm (x / 16 / 16 / 16 / 16 / 16)) (hm (x / 16 / 16 / 16 / 16 / 16 / 16)) (hm (x / 16 / 16 / 16 / 16 / 16 / 16 / 16))
  rw [← hv] at h
  rw [h, setW_split x 28, setW_split _ 24, setW_split _ 20, setW_split _ 16, setW_split _ 12, setW_split _ 8, setW_split _ 4, setW_split _ 0]
  rw [show (setW (x / 16 / 16 / 16 / 16 / 16 / 16 / 16 / 16) 0).length = 0 from rfl]
  congr 2
  omega
theorem bitsIn_eq {x : Nat} (hx : x < 4294967296) : F_impl_bitsIn (x : Int) = some (((setW x 32).length : Nat) : Int) := by
  unfold F_impl_bitsIn F_math_bits_OnesCount
  rw [wrapU (by omega), ones_eq hx]
  rfl
/-- The specification's list of the bits. -/
theorem set_stop {x k : Nat} (h : x < 2 ^ k) : ∀ d, setW x (k + d) = setW x k
  | 0 => rfl
  | d + 1 => by
    rw [← set_stop h d, ← Nat.add_assoc]
    unfold setW
    rw [List.range_succ, List.filter_append]
    have : x.testBit (k + d) = false := Nat.testBit_lt_two_pow (Nat.lt_of_lt_of_le h (Nat.pow_le_pow_right (by decide) (by omega)))
    simp [this]
theorem set_wh {x : Nat} (hx : x < 4294967296) : ∀ (q m k : Nat), k + m = 32 → m < q → ∃ k', whX (F_spec_l1Set_l1 (x : Int)) q (cI (setW x k), (k : Int)) = some (.inl (cI (setW x 32), k'))
  | 0, _, _, _, h => absurd h (Nat.not_lt_zero _)
  | q + 1, m, k, hm, hq => by
    have hk : IntKind.u64.wrap (k : Int) = (k : Int) := wru' (by omega)
    have hlen : (setW x k).length ≤ k := Nat.le_trans (List.length_filter_le _ _) (by simp)
    by_cases h0 : 0 < x / 2 ^ k
    · have hk32 : k < 32 := by
        rcases Nat.lt_or_ge k 32 with h | h
        · exact h
        · have : k = 32 := by omega
          subst this
          omega
      obtain ⟨m', rfl⟩ : ∃ m', m = m' + 1 := ⟨m - 1, by omega⟩
      obtain ⟨k', ih⟩ := set_wh hx q m' (k + 1) (by omega) (by omega)
      refine ⟨k', ?_⟩
      rw [← ih]
      simp only [whX]
      have : F_spec_l1Set_l1 (x : Int) (cI (setW x k), (k : Int)) = some (.nx (cI (setW x (k + 1)), ((k + 1 : Nat) : Int))) := by
        unfold F_spec_l1Set_l1
        simp only
        rw [hk, chk_t (by omega), shr_i x k (by omega), decide_eq_true (show (0 : Int) < ((x / 2 ^ k : Nat) : Int) by omega)]
        simp only [cond_true]
        have hd : x / 2 ^ k < 9223372036854775808 := Nat.lt_of_le_of_lt (Nat.div_le_self _ _) (by omega)
        rw [chk_t (by omega), show (1 : Int) = ((1 : Nat) : Int) from rfl, and_i hd (by decide), Nat.and_one_is_mod, wrap_i64 (a := (k : Int) + ((1 : Nat) : Int)) ⟨by omega, by omega⟩]
        have hbit : (((x / 2 ^ k % 2 : Nat) : Int) == ((1 : Nat) : Int)) = x.testBit k := by
          rw [Nat.testBit_eq_decide_div_mod_eq]
          rw [Bool.eq_iff_iff]
          simp only [beq_iff_eq, decide_eq_true_eq]
          omega
        rw [hbit]
        have hsucc : setW x (k + 1) = setW x k ++ (if x.testBit k then [k] else []) := by
          unfold setW
          rw [List.range_succ, List.filter_append]
          cases hb : x.testBit k <;> simp [hb]
        rw [hsucc]
        cases hb : x.testBit k with
        | false => simp [cI]
        | true =>
          simp only [cond_true]
          rw [chk_t (by rw [cI_len]; omega)]
          simp [cI]
      rw [this]
      rfl
    · refine ⟨(k : Int), ?_⟩
      have hlt : x < 2 ^ k := by
        rcases Nat.lt_or_ge x (2 ^ k) with h | h
        · exact h
        · exact absurd (Nat.div_pos h (Nat.two_pow_pos k)) h0
      have hs := set_stop hlt m
      rw [hm] at hs
      simp only [whX]
      have : F_spec_l1Set_l1 (x : Int) (cI (setW x k), (k : Int)) = some (.br (cI (setW x k), (k : Int))) := by
        unfold F_spec_l1Set_l1
        simp only
        rw [hk, chk_t (by omega), shr_i x k (by omega), decide_eq_false (show ¬ (0 : Int) < ((x / 2 ^ k : Nat) : Int) by omega)]
        rfl
      rw [this, hs]
      rfl
theorem setW_eq {x : Nat} (hx : x < 4294967296) : F_spec_l1Set (x : Int) = some (cI (setW x 32)) := by
  unfold F_spec_l1Set
  obtain ⟨k', h⟩ := set_wh hx fuel 32 0 (by omega) (fuelB (by omega))
  rw [show (([] : List Int), (0 : Int)) = (cI (setW x 0), ((0 : Nat) : Int)) from rfl, h]
  rfl

theorem or_i {a b : Nat} (ha : a < 9223372036854775808) (hb : b < 9223372036854775808) : bits .or .i64 (a : Int) (b : Int) = ((a ||| b : Nat) : Int) := by
  have h1 : a ||| b < 2 ^ 63 := Nat.or_lt_two_pow ha hb
  show IntKind.i64.wrap ((BitVec.ofInt 64 (a : Int) ||| BitVec.ofInt 64 (b : Int)).toNat : Int) = _
  have e1 : BitVec.ofInt 64 (a : Int) = BitVec.ofNat 64 a := rfl
  have e2 : BitVec.ofInt 64 (b : Int) = BitVec.ofNat 64 b := rfl
  rw [e1, e2, BitVec.toNat_or, BitVec.toNat_ofNat, BitVec.toNat_ofNat, Nat.mod_eq_of_lt (by omega), Nat.mod_eq_of_lt (by omega)]
  exact wrap_i64 ⟨by omega, by omega⟩
theorem xor_i {a b : Nat} (ha : a < 9223372036854775808) (hb : b < 9223372036854775808) : bits .xor .i64 (a : Int) (b : Int) = ((a ^^^ b : Nat) : Int) := by
  have h1 : a ^^^ b < 2 ^ 63 := Nat.xor_lt_two_pow ha hb
  show IntKind.i64.wrap ((BitVec.ofInt 64 (a : Int) ^^^ BitVec.ofInt 64 (b : Int)).toNat : Int) = _
  have e1 : BitVec.ofInt 64 (a : Int) = BitVec.ofNat 64 a := rfl
  have e2 : BitVec.ofInt 64 (b : Int) = BitVec.ofNat 64 b := rfl
  rw [e1, e2, BitVec.toNat_xor, BitVec.toNat_ofNat, BitVec.toNat_ofNat, Nat.mod_eq_of_lt (by omega), Nat.mod_eq_of_lt (by omega)]
  exact wrap_i64 ⟨by omega, by omega⟩
theorem shl_i {x k : Nat} (hk : k ≤ 60) (h : x * 2 ^ k < 9223372036854775808) : shlK .i64 (x : Int) (k : Int) = ((x * 2 ^ k : Nat) : Int) := by
  unfold shlK
  rw [Int.toNat_natCast, Nat.min_eq_left (show k ≤ IntKind.bits .i64 from by show k ≤ 64; omega)]
  have : (x : Int) * 2 ^ k = ((x * 2 ^ k : Nat) : Int) := by push_cast; rfl
  rw [this]
  exact wrap_i64 ⟨by omega, by omega⟩
theorem ps_w {a : Int} (h : -9000000000000000000 ≤ a ∧ a ≤ 9000000000000000000) : IntKind.i64.wrap a = a := wrap_i64 ⟨by omega, by omega⟩
theorem tb_mul {k q j : Nat} : (2 ^ k * q).testBit j = (decide (k ≤ j) && q.testBit (j - k)) := by
  rw [Nat.testBit_two_pow_mul]
/-- The lowest bit. -/
theorem low_nat {k q : Nat} (j : Nat) : ((2 ^ k * (2 * q + 1)).testBit j && !(2 ^ k * (2 * q + 1) - 1).testBit j) = (2 ^ k).testBit j := by
  have hp := Nat.two_pow_pos k
  have e : 2 ^ k * (2 * q + 1) - 1 = 2 ^ k * (2 * q) + (2 ^ k - 1) := by
    rw [Nat.mul_add, Nat.mul_one]; omega
  rw [e, Nat.testBit_two_pow_mul_add _ (by omega), tb_mul, Nat.testBit_two_pow, Nat.testBit_two_pow_sub_one]
  by_cases h : j < k
  · have h1 : ¬ k ≤ j := by omega
    have h2 : ¬ k = j := by omega
    simp [h, h1, h2]
  · rw [if_neg h]
    have h1 : k ≤ j := by omega
    by_cases h2 : k = j
    · subst h2
      simp
    · have h3 : ∃ i, j - k = i + 1 := ⟨j - k - 1, by omega⟩
      obtain ⟨i, hi⟩ := h3
      rw [hi, Nat.testBit_succ, Nat.testBit_succ, show (2 * q + 1) / 2 = q by omega, show 2 * q / 2 = q by omega]
      simp [h1, h2]
theorem low_bit {k q : Nat} (h : 2 ^ k * (2 * q + 1) < 4611686018427387904) : bits .and .i64 ((2 ^ k * (2 * q + 1) : Nat) : Int) (IntKind.i64.wrap (-((2 ^ k * (2 * q + 1) : Nat) : Int))) = ((2 ^ k : Nat) : Int) := by
  generalize hm : 2 ^ k * (2 * q + 1) = m at h ⊢
  have hp := Nat.two_pow_pos k
  have hm1 : 1 ≤ m := by
    rw [← hm]; exact Nat.mul_pos hp (by omega)
  have hk : 2 ^ k ≤ m := by rw [← hm]; exact Nat.le_mul_of_pos_right _ (by omega)
  rw [ps_w (by omega)]
  show IntKind.i64.wrap ((BitVec.ofInt 64 (m : Int) &&& BitVec.ofInt 64 (-(m : Int))).toNat : Int) = _
  have e1 : BitVec.ofInt 64 (m : Int) = BitVec.ofNat 64 m := rfl
  have e2 : BitVec.ofInt 64 (-(m : Int)) = ~~~ BitVec.ofNat 64 (m - 1) := by
    rw [BitVec.ofInt_neg, e1]
    apply BitVec.eq_of_toInt_eq
    rw [BitVec.toInt_not, BitVec.toInt_neg]
    have a1 : (BitVec.ofNat 64 m).toInt = (m : Int) := by
      rw [BitVec.toInt_eq_toNat_of_lt (by rw [BitVec.toNat_ofNat, Nat.mod_eq_of_lt (by omega)]; omega), BitVec.toNat_ofNat, Nat.mod_eq_of_lt (by omega)]
    have a2 : (BitVec.ofNat 64 (m - 1)).toNat = m - 1 := by rw [BitVec.toNat_ofNat, Nat.mod_eq_of_lt (by omega)]
    rw [a1, a2]
    simp [Int.bmod]
    omega
  have e3 : (BitVec.ofNat 64 m &&& ~~~ BitVec.ofNat 64 (m - 1)) = BitVec.ofNat 64 (2 ^ k) := by
    apply BitVec.eq_of_getLsbD_eq
    intro j hj
    rw [BitVec.getLsbD_and, BitVec.getLsbD_not, BitVec.getLsbD_ofNat, BitVec.getLsbD_ofNat, BitVec.getLsbD_ofNat, decide_eq_true hj]
    have := low_nat (k := k) (q := q) j
    rw [hm] at this
    simpa using this
  rw [e1, e2, e3, BitVec.toNat_ofNat, Nat.mod_eq_of_lt (by omega)]
  exact wrap_i64 ⟨by omega, by omega⟩
theorem hi_split (m k : Nat) : m / 2 ^ k = 2 * (m / 2 ^ (k + 1)) + (if m.testBit k then 1 else 0) := by
  rw [Nat.testBit_eq_decide_div_mod_eq]
  have h1 : m / 2 ^ (k + 1) = m / 2 ^ k / 2 := by rw [Nat.pow_succ, Nat.div_div_eq_div_mul]
  rw [h1]
  have := Nat.div_add_mod (m / 2 ^ k) 2
  by_cases h : m / 2 ^ k % 2 = 1
  · simp [h]; omega
  · simp [h]; omega
theorem setW_snoc (x k : Nat) : setW x (k + 1) = setW x k ++ (if x.testBit k then [k] else []) := by
  unfold setW
  rw [List.range_succ, List.filter_append]
  cases hb : x.testBit k <;> simp [hb]
theorem xor_low {k q : Nat} : (2 ^ k * (2 * q + 1)) ^^^ 2 ^ k = 2 ^ (k + 1) * q := by
  apply Nat.eq_of_testBit_eq
  intro j
  rw [Nat.testBit_xor, tb_mul, tb_mul, Nat.testBit_two_pow]
  by_cases h : j < k
  · have h1 : ¬ k ≤ j := by omega
    have h2 : ¬ k = j := by omega
    have h3 : ¬ k + 1 ≤ j := by omega
    simp [h1, h2, h3]
  · by_cases h2 : k = j
    · subst h2
      have h9 : ¬ k + 1 ≤ k := by omega
      simp [h9]
    · have h3 : k + 1 ≤ j := by omega
      have h4 : k ≤ j := by omega
      have h5 : j - k = (j - (k + 1)) + 1 := by omega
      rw [h5, Nat.testBit_succ, show (2 * q + 1) / 2 = q by omega]
      simp [h2, h3, h4]
def pwI (l : List Nat) : List Int := l.map fun (k : Nat) => ((2 ^ k : Nat) : Int)
theorem bits_wh {x : Nat} (hx : x < 4294967296) : ∀ (m k q : Nat), k + m = 32 → m < q → whX F_impl_bitsOf_l1 q (((2 ^ k * (x / 2 ^ k) : Nat) : Int), pwI (setW x k)) = some (.inl (0, pwI (setW x 32)))
  | _, _, 0, _, h => absurd h (Nat.not_lt_zero _)
  | 0, k, q + 1, hm, _ => by
    have : k = 32 := by omega
    subst this
    rw [Nat.div_eq_of_lt (by omega)]
    simp only [whX]
    rfl
  | m + 1, k, q + 1, hm, hq => by
    have hs := hi_split x k
    have hx2 := Nat.mul_div_le x (2 ^ k)
    have hlen : (pwI (setW x k)).length ≤ k := by
      unfold pwI
      rw [List.length_map]
      exact Nat.le_trans (List.length_filter_le _ _) (by simp)
    cases hb : x.testBit k with
    | false =>
      rw [hb] at hs
      have ih := bits_wh hx m (k + 1) (q + 1) (by omega) (by omega)
      rw [setW_snoc, hb] at ih
      simp only [Bool.false_eq_true, if_false, List.append_nil, Nat.add_zero] at ih hs
      rw [hs, ← Nat.mul_assoc, ← Nat.pow_succ]
      exact ih
    | true =>
      rw [hb] at hs
      simp only [if_true] at hs
      have ih := bits_wh hx m (k + 1) q (by omega) (by omega)
      rw [← ih]
      simp only [whX]
      rw [hs] at hx2
      have hlt : 2 ^ k * (2 * (x / 2 ^ (k + 1)) + 1) < 4611686018427387904 := by omega
      have hk2 : 2 ^ k ≤ 2 ^ k * (2 * (x / 2 ^ (k + 1)) + 1) := Nat.le_mul_of_pos_right _ (by omega)
      have hp := Nat.two_pow_pos k
      have : F_impl_bitsOf_l1 (((2 ^ k * (x / 2 ^ k) : Nat) : Int), pwI (setW x k)) = some (.nx (((2 ^ (k + 1) * (x / 2 ^ (k + 1)) : Nat) : Int), pwI (setW x (k + 1)))) := by
        rw [hs]
        unfold F_impl_bitsOf_l1
        simp only
        rw [low_bit hlt, xor_i (by omega) (by omega), xor_low]
        have hne : (((2 ^ k * (2 * (x / 2 ^ (k + 1)) + 1) : Nat) : Int) != 0) = true := by
          have : ((2 ^ k * (2 * (x / 2 ^ (k + 1)) + 1) : Nat) : Int) ≠ 0 := by omega
          simpa using this
        rw [hne, cond_true, chk_t (by omega), setW_snoc, hb]
        simp [pwI]
      rw [this]
      rfl
theorem bitsOf_eq {x : Nat} (hx : x < 4294967296) : F_impl_bitsOf (x : Int) = some (pwI (setW x 32)) := by
  unfold F_impl_bitsOf
  have h := bits_wh hx 32 0 fuel (by omega) (fuelB (by omega))
  rw [show 2 ^ 0 * (x / 2 ^ 0) = x by simp] at h
  rw [show (([] : List Int)) = pwI (setW x 0) from rfl, h]
  rfl
def dr (v m : Nat) : Nat := m % 2 ^ v + m / 2 ^ (v + 1) * 2 ^ v
theorem dr_le (v m : Nat) : dr v m ≤ m := by
  unfold dr
  have h1 := Nat.div_add_mod m (2 ^ v)
  have h2 : m / 2 ^ (v + 1) ≤ m / 2 ^ v := Nat.div_le_div_left (Nat.pow_le_pow_right (by decide) (by omega)) (Nat.two_pow_pos v)
  have h3 : m / 2 ^ (v + 1) * 2 ^ v ≤ m / 2 ^ v * 2 ^ v := Nat.mul_le_mul_right _ h2
  rw [Nat.mul_comm (2 ^ v)] at h1
  omega
theorem dr_lt {v m n : Nat} (hv : v < n) (hm : m < 2 ^ n) : dr v m < 2 ^ (n - 1) := by
  unfold dr
  have h1 : m / 2 ^ (v + 1) < 2 ^ (n - (v + 1)) := by
    refine Nat.div_lt_of_lt_mul ?_
    rw [← Nat.pow_add, show v + 1 + (n - (v + 1)) = n by omega]
    exact hm
  have h2 : m % 2 ^ v < 2 ^ v := Nat.mod_lt _ (Nat.two_pow_pos v)
  have h3 : (m / 2 ^ (v + 1) + 1) * 2 ^ v ≤ 2 ^ (n - (v + 1)) * 2 ^ v := Nat.mul_le_mul_right _ h1
  rw [← Nat.pow_add, show n - (v + 1) + v = n - 1 by omega, Nat.add_mul, Nat.one_mul] at h3
  omega
theorem dr_bit (v m j : Nat) : (dr v m).testBit j = if j < v then m.testBit j else m.testBit (j + 1) := by
  unfold dr
  rw [Nat.add_comm, Nat.mul_comm, Nat.testBit_two_pow_mul_add _ (Nat.mod_lt _ (Nat.two_pow_pos v))]
  by_cases h : j < v
  · rw [if_pos h, if_pos h, Nat.testBit_mod_two_pow]; simp [h]
  · rw [if_neg h, if_neg h, Nat.testBit_div_two_pow]
    congr 1; omega
theorem dr_or (v a b : Nat) : dr v (a ||| b) = dr v a ||| dr v b := by
  apply Nat.eq_of_testBit_eq
  intro j
  simp only [dr_bit, Nat.testBit_or]
  split <;> rfl
theorem dr_xor (v a b : Nat) : dr v (a ^^^ b) = dr v a ^^^ dr v b := by
  apply Nat.eq_of_testBit_eq
  intro j
  simp only [dr_bit, Nat.testBit_xor]
  split <;> rfl
theorem dr_inj {v a b : Nat} (ha : a.testBit v = false) (hb : b.testBit v = false) (h : dr v a = dr v b) : a = b := by
  apply Nat.eq_of_testBit_eq
  intro j
  rcases Nat.lt_trichotomy j v with h1 | h1 | h1
  · have := congrArg (·.testBit j) h
    simp only [dr_bit, if_pos h1] at this
    exact this
  · subst h1; rw [ha, hb]
  · have := congrArg (·.testBit (j - 1)) h
    simp only [dr_bit, if_neg (show ¬ j - 1 < v by omega), show j - 1 + 1 = j by omega] at this
    exact this
theorem dr_mono {v a b : Nat} (ha : a.testBit v = false) (hb : b.testBit v = false) (h : a < b) : dr v a < dr v b := by
  have e : ∀ m : Nat, m.testBit v = false → m = m % 2 ^ v + m / 2 ^ (v + 1) * (2 ^ v * 2) := fun m hm => by
    have h1 := Nat.div_add_mod m (2 ^ v)
    have h2 := hi_split m v
    rw [hm] at h2
    simp only [Bool.false_eq_true, if_false, Nat.add_zero] at h2
    rw [h2] at h1
    rw [Nat.mul_comm (m / 2 ^ (v + 1)), Nat.mul_assoc]
    omega
  have hp := Nat.two_pow_pos v
  have ea := e a ha
  have eb := e b hb
  have ma : a % 2 ^ v < 2 ^ v := Nat.mod_lt _ hp
  have mb : b % 2 ^ v < 2 ^ v := Nat.mod_lt _ hp
  unfold dr
  rcases Nat.lt_trichotomy (a / 2 ^ (v + 1)) (b / 2 ^ (v + 1)) with h1 | h1 | h1
  · have : (a / 2 ^ (v + 1) + 1) * 2 ^ v ≤ b / 2 ^ (v + 1) * 2 ^ v := Nat.mul_le_mul_right _ h1
    rw [Nat.add_mul, Nat.one_mul] at this
    omega
  · rw [h1] at ea ⊢; omega
  · exfalso
    have : (b / 2 ^ (v + 1) + 1) * (2 ^ v * 2) ≤ a / 2 ^ (v + 1) * (2 ^ v * 2) := Nat.mul_le_mul_right _ h1
    rw [Nat.add_mul, Nat.one_mul] at this
    omega
theorem dr_two (v k : Nat) (h : k ≠ v) : dr v (2 ^ k) = 2 ^ (if k < v then k else k - 1) := by
  apply Nat.eq_of_testBit_eq
  intro j
  rw [dr_bit, Nat.testBit_two_pow, Nat.testBit_two_pow, Nat.testBit_two_pow]
  by_cases h1 : j < v <;> by_cases h2 : k < v <;> simp only [h1, h2, if_true, if_false] <;> rw [Bool.eq_iff_iff] <;> simp only [decide_eq_true_eq] <;> omega
theorem dr_zero (v : Nat) : dr v 0 = 0 := by unfold dr; simp
/-- Back. -/
def ur (v m : Nat) : Nat := m % 2 ^ v + m / 2 ^ v * 2 ^ (v + 1)
theorem ur_bit (v m j : Nat) : (ur v m).testBit j = if j < v then m.testBit j else if j = v then false else m.testBit (j - 1) := by
  unfold ur
  have hm := Nat.mod_lt m (Nat.two_pow_pos v)
  rw [Nat.add_comm, show m / 2 ^ v * 2 ^ (v + 1) = 2 ^ v * (2 * (m / 2 ^ v)) by rw [Nat.pow_succ]; rw [Nat.mul_comm (m / 2 ^ v), Nat.mul_assoc], Nat.testBit_two_pow_mul_add _ hm]
  by_cases h : j < v
  · rw [if_pos h, if_pos h, Nat.testBit_mod_two_pow]; simp [h]
  · rw [if_neg h, if_neg h]
    by_cases h2 : j = v
    · subst h2; simp
    · rw [if_neg h2]
      obtain ⟨i, hi⟩ : ∃ i, j - v = i + 1 := ⟨j - v - 1, by omega⟩
      rw [hi, Nat.testBit_succ, show 2 * (m / 2 ^ v) / 2 = m / 2 ^ v by omega, Nat.testBit_div_two_pow]
      congr 1; omega
theorem ur_v (v m : Nat) : (ur v m).testBit v = false := by rw [ur_bit]; simp
theorem dr_ur (v m : Nat) : dr v (ur v m) = m := by
  apply Nat.eq_of_testBit_eq
  intro j
  rw [dr_bit, ur_bit, ur_bit]
  by_cases h : j < v
  · simp [h]
  · have h1 : ¬ j + 1 < v := by omega
    have h2 : ¬ j + 1 = v := by omega
    simp [h, h1, h2]
theorem mod_and (m v : Nat) : m &&& (2 ^ v - 1) = m % 2 ^ v := Nat.and_two_pow_sub_one_eq_mod m v
theorem ps_shl1 {v : Nat} (hv : v ≤ 40) : shlK .i64 1 (v : Int) = ((2 ^ v : Nat) : Int) ∧ 2 ^ v ≤ 2 ^ 40 := by
  have h40 : 2 ^ v ≤ 2 ^ 40 := Nat.pow_le_pow_right (by decide) hv
  refine ⟨?_, h40⟩
  rw [show (1 : Int) = ((1 : Nat) : Int) from rfl, shl_i (by omega) (by omega), Nat.one_mul]
theorem drop_i {m v : Nat} (hm : m < 1099511627776) (hv : v ≤ 40) : F_impl_dropped (m : Int) (v : Int) = some ((dr v m : Nat) : Int) := by
  obtain ⟨s1, s2⟩ := ps_shl1 hv
  have hp := Nat.two_pow_pos v
  have hd := dr_le v m
  unfold F_impl_dropped
  rw [chk_t (by omega), ps_w (a := (v : Int) + 1) (by omega), chk_t (by omega), chk_t (by omega), s1, ps_w (by omega), show ((2 ^ v : Nat) : Int) - 1 = ((2 ^ v - 1 : Nat) : Int) by omega, and_i (by omega) (by omega), mod_and,
    show (v : Int) + 1 = ((v + 1 : Nat) : Int) by omega, shr_i m (v + 1) (by omega)]
  have h2 : m / 2 ^ (v + 1) * 2 ^ v ≤ m := by unfold dr at hd; omega
  have h3 : m % 2 ^ v < 2 ^ v := Nat.mod_lt _ hp
  rw [shl_i (by omega) (by omega), or_i (by omega) (by omega)]
  congr 2
  unfold dr
  rw [Nat.or_comm, Nat.mul_comm, ← Nat.two_pow_add_eq_or_of_lt h3]
  omega
theorem drop_s {m v : Nat} (hm : m < 1099511627776) (hv : v ≤ 40) : F_spec_l21Drop (m : Int) (v : Int) = some ((dr v m : Nat) : Int) := by
  have h := drop_i hm hv
  unfold F_spec_l21Drop
  unfold F_impl_dropped at h
  rw [ps_w (a := (v : Int) + 1) (by omega)] at h ⊢
  rw [show (v : Int) + 1 = ((v + 1 : Nat) : Int) by omega] at h ⊢
  rw [wrapU (by omega), wrapU (by omega)]
  exact h

/-- A path sum that is taken, over N variables. -/
structure PsOk (p : TPathSum) (N : Nat) : Prop where
  ins : 1 ≤ p.Ins ∧ p.Ins ≤ 5
  vars : 0 ≤ p.Vars ∧ p.Vars ≤ 24 - p.Ins
  phase : 0 ≤ p.Phase ∧ p.Phase ≤ 7
  out : (p.Out.length : Int) = p.Ins
  num : p.Ins + p.Vars = (N : Int)
  terms : ∀ (i : Nat) (x : TTerm), p.Terms[i]? = some x → (1 ≤ x.Mask ∧ x.Mask ≤ ((2 ^ N : Nat) : Int) - 1) ∧ 1 ≤ x.Coef ∧ x.Coef ≤ 7 ∧ (0 < i → ∀ y : TTerm, p.Terms[i - 1]? = some y → y.Mask < x.Mask)
  outs : ∀ a : TAffine, a ∈ p.Out → (0 ≤ a.Mask ∧ a.Mask ≤ ((2 ^ N : Nat) : Int) - 1) ∧ 0 ≤ a.Turn ∧ a.Turn ≤ 1
theorem ps_bitsIn (x : Int) : ∃ r, F_impl_bitsIn x = some r := by
  unfold F_impl_bitsIn F_math_bits_OnesCount F_math_bits_OnesCount64
  exact ⟨_, rfl⟩
theorem ps_within (a b c : Int) : F_impl_within a b c = some (decide (b ≤ a) && decide (a ≤ c)) := rfl
theorem ps_in (a b c : Int) : F_spec_l1In a b c = some (decide (b ≤ a) && decide (a ≤ c)) := rfl
theorem gb_t {α : Type} {b : Bool} {d : α} {x : Option α} (h : b = true) : gb b d x = x := by rw [h]; rfl
theorem gb_f {α : Type} {b : Bool} {d : α} {x : Option α} (h : b = false) : gb b d x = some d := by rw [h]; rfl
theorem gb_some {α : Type} {b : Bool} {d y : α} : ∃ z, gb b d (some y) = some z := by cases b <;> exact ⟨_, rfl⟩
theorem ps_pow {N : Nat} (h : N ≤ 24) : (2 : Int) ^ N = ((2 ^ N : Nat) : Int) ∧ 2 ^ N ≤ 16777216 ∧ 1 ≤ 2 ^ N := by
  refine ⟨by push_cast; rfl, ?_, Nat.two_pow_pos N⟩
  have : (2 : Nat) ^ N ≤ 2 ^ 24 := Nat.pow_le_pow_right (by decide) h
  omega
theorem ps_size {x : Nat} (h0 : 0 < x) (h : x < 4294967296) : 1 ≤ (setW x 32).length := by
  rcases Nat.eq_zero_or_pos (setW x 32).length with h1 | h1
  · exfalso
    have h2 : setW x 32 = [] := List.eq_nil_of_length_eq_zero h1
    have h3 : ∀ k, k < 32 → x.testBit k = false := fun k hk => by
      cases hb : x.testBit k with
      | false => rfl
      | true =>
        have : k ∈ setW x 32 := List.mem_filter.2 ⟨List.mem_range.2 hk, hb⟩
        rw [h2] at this; cases this
    have : x = 0 := by
      apply Nat.eq_of_testBit_eq
      intro j
      rw [Nat.zero_testBit]
      rcases Nat.lt_or_ge j 32 with hj | hj
      · exact h3 j hj
      · exact Nat.testBit_lt_two_pow (Nat.lt_of_lt_of_le h (Nat.pow_le_pow_right (n := 2) (i := 32) (by decide) hj))
    omega
  · exact h1
theorem ps_coef : ∀ s : Fin 4, 1 ≤ s.val → shlK .i64 1 (IntKind.i64.wrap ((s.val : Int) - 1)) ≠ 0 ∧ (getI [1, 1, 2, 4] (s.val : Int) : Option Int) = some (shlK .i64 1 (IntKind.i64.wrap ((s.val : Int) - 1))) := by decide +kernel
theorem ps_term {p : TPathSum} {N : Nat} (hN : N ≤ 24) (hnum : p.Ins + p.Vars = (N : Int)) (hlen : p.Terms.length ≤ 1099511627776) {i : Nat} {x : TTerm} (hx : p.Terms[i]? = some x) :
    (F_spec_l21Valid_l1 p i () = some (.nx ()) ∧ F_impl_IsValidPathSum_l1 p i () = some (.nx ()) ∧ (1 ≤ x.Mask ∧ x.Mask ≤ ((2 ^ N : Nat) : Int) - 1) ∧ 1 ≤ x.Coef ∧ x.Coef ≤ 7 ∧ (0 < i → ∀ y : TTerm, p.Terms[i - 1]? = some y → y.Mask < x.Mask)) ∨
      (F_spec_l21Valid_l1 p i () = some (.rt false) ∧ F_impl_IsValidPathSum_l1 p i () = some (.rt false)) := by
  obtain ⟨P1, P2, P3⟩ := ps_pow hN
  obtain ⟨s1, _⟩ := ps_shl1 (v := N) (by omega)
  have hi : i < p.Terms.length := (List.getElem?_eq_some_iff.1 hx).1
  have hu : IntKind.u64.wrap (N : Int) = (N : Int) := wrapU (by omega)
  obtain ⟨y, hy1, hy2⟩ : ∃ y, (0 < i → p.Terms[i - 1]? = some y) ∧ ∀ b : Bool, gb (b && decide (0 < (i : Int))) (TTerm.mk 0 0) (getI p.Terms (IntKind.i64.wrap ((i : Int) - 1))) = some (if (b && decide (0 < (i : Int))) = true then y else TTerm.mk 0 0) := by
    by_cases h0 : 0 < i
    · have hj := List.getElem?_eq_getElem (show i - 1 < p.Terms.length by omega)
      refine ⟨p.Terms[i - 1], fun _ => hj, fun b => ?_⟩
      cases b with
      | false => rfl
      | true =>
        rw [decide_eq_true (show (0 : Int) < (i : Int) by omega), ps_w (by omega), show (i : Int) - 1 = ((i - 1 : Nat) : Int) by omega, getI_nat, hj]; rfl
    · refine ⟨TTerm.mk 0 0, fun h => absurd h h0, fun b => ?_⟩
      rw [decide_eq_false (show ¬ (0 : Int) < (i : Int) by omega), Bool.and_false]
      rfl
  unfold F_spec_l21Valid_l1 F_impl_IsValidPathSum_l1
  rw [getI_nat, hx, hnum, ps_w (a := (N : Int)) (by omega), hu, s1, ps_w (a := ((2 ^ N : Nat) : Int) - 1) (by omega)]
  have hch : ∀ {α : Type} (k : Option α), chk ((0 : Int) ≤ (N : Int)) k = k := fun k => chk_t (by omega)
  simp only [Option.bind_some, ps_within, ps_in, hch]
  by_cases hm : 1 ≤ x.Mask ∧ x.Mask ≤ ((2 ^ N : Nat) : Int) - 1
  · obtain ⟨m, hm0⟩ : ∃ m : Nat, x.Mask = (m : Int) := ⟨x.Mask.toNat, by omega⟩
    have hm32 : m < 4294967296 := by omega
    have hsz := ps_size (x := m) (by omega) hm32
    have e1 : (decide (1 ≤ x.Mask) && decide (x.Mask ≤ ((2 ^ N : Nat) : Int) - 1)) = true := by simp only [Bool.and_eq_true, decide_eq_true_eq]; exact hm
    rw [e1, hm0, bitsIn_eq hm32, setW_eq hm32]
    simp only [Option.bind_some, cI_len, Bool.not_true, Bool.not_false, Bool.false_or]
    generalize hs : (setW m 32).length = s at hsz ⊢
    by_cases hc : 1 ≤ x.Coef ∧ x.Coef ≤ 7
    · have e2 : (decide (1 ≤ x.Coef) && decide (x.Coef ≤ 7)) = true := by simp only [Bool.and_eq_true, decide_eq_true_eq]; exact hc
      rw [e2, gb_t (show (true : Bool) = true from rfl)]
      simp only [Option.bind_some, Bool.not_true, Bool.not_false, Bool.false_or]
      by_cases h3 : 3 < s
      · right
        rw [decide_eq_true (show (3 : Int) < (s : Int) by omega)]
        simp only [Bool.not_true, cond_false, gb_f (show (false : Bool) = false from rfl), Option.bind_some, Bool.not_false, Bool.or_true, Bool.true_or, Bool.false_eq_true, false_implies]
        refine ⟨?_, ?_⟩
        · rw [hy2]
          simp only [Option.bind_some]
          cases (decide (0 < (i : Int)) && decide ((m : Int) ≤ (if (true && decide (0 < (i : Int))) = true then y else TTerm.mk 0 0).Mask)) <;> rfl
        · rw [chk_t trivial, chk_t trivial, show (false && decide (0 < (i : Int))) = false from rfl, gb_f rfl]
          rfl
      · obtain ⟨c1, c2⟩ := ps_coef ⟨s, by omega⟩ hsz
        simp only at c1 c2
        rw [decide_eq_false (show ¬ (3 : Int) < (s : Int) by omega)]
        simp only [Bool.not_false, cond_true, gb_t (show (true : Bool) = true from rfl), Option.bind_some, Bool.or_false, Bool.not_true, Bool.false_or]
        rw [hy2, c2, chk_t (fun _ => by rw [ps_w (by omega)]; omega), chk_t (fun _ => c1)]
        simp only [Option.bind_some]
        rw [chk_t c1, hy2]
        simp only [Option.bind_some]
        by_cases ht : Int.tmod x.Coef (shlK .i64 1 (IntKind.i64.wrap ((s : Int) - 1))) = 0
        · have e3 : (Int.tmod x.Coef (shlK .i64 1 (IntKind.i64.wrap ((s : Int) - 1))) != 0) = false := by rw [ht]; rfl
          rw [e3]
          simp only [Bool.not_false, Bool.true_and, cond_false, Bool.false_or]
          by_cases h0 : 0 < i
          · have hy := hy1 h0
            rw [decide_eq_true (show (0 : Int) < (i : Int) by omega)]
            simp only [Bool.true_and, if_true]
            by_cases hlt : (m : Int) ≤ y.Mask
            · right
              rw [decide_eq_true hlt]
              exact ⟨rfl, rfl⟩
            · left
              rw [decide_eq_false hlt]
              refine ⟨rfl, rfl, by omega, hc.1, hc.2, fun _ z hz => ?_⟩
              rw [hy] at hz; cases hz; omega
          · left
            rw [decide_eq_false (show ¬ (0 : Int) < (i : Int) by omega)]
            exact ⟨rfl, rfl, by omega, hc.1, hc.2, fun h => absurd h h0⟩
        · right
          have e3 : (Int.tmod x.Coef (shlK .i64 1 (IntKind.i64.wrap ((s : Int) - 1))) != 0) = true := by simpa using ht
          rw [e3]
          simp only [Bool.true_or, cond_true, and_true]
          cases (decide (0 < (i : Int)) && decide ((m : Int) ≤ (if (true && decide (0 < (i : Int))) = true then y else TTerm.mk 0 0).Mask)) <;> rfl
    · right
      have e2 : (decide (1 ≤ x.Coef) && decide (x.Coef ≤ 7)) = false := by rw [Bool.and_eq_false_iff, decide_eq_false_iff_not, decide_eq_false_iff_not]; omega
      rw [e2, gb_t (show (true : Bool) = true from rfl)]
      have e3 : gb (!decide (3 < (s : Int))) false (some false) = some false := by cases (!decide (3 < (s : Int))) <;> rfl
      simp only [e3, Option.bind_some, Bool.not_false, Bool.or_true, Bool.true_or, Bool.not_true, Bool.false_eq_true, false_implies, Bool.false_and, gb_f (show (false : Bool) = false from rfl), cond_true]
      exact ⟨trivial, by rw [chk_t trivial, chk_t trivial]⟩
  · right
    have e1 : (decide (1 ≤ x.Mask) && decide (x.Mask ≤ ((2 ^ N : Nat) : Int) - 1)) = false := by rw [Bool.and_eq_false_iff, decide_eq_false_iff_not, decide_eq_false_iff_not]; omega
    obtain ⟨sz, hsz⟩ := ps_bitsIn x.Mask
    rw [e1, hsz]
    simp only [Option.bind_some, Bool.not_false, Bool.true_or, Bool.not_true, Bool.false_eq_true, false_implies, Bool.false_and, gb_f (show (false : Bool) = false from rfl), cond_true]
    exact ⟨trivial, by rw [chk_t trivial, chk_t trivial]⟩

theorem ps_affine {N : Nat} (hN : N ≤ 24) (a : TAffine) : F_impl_isAffine a (N : Int) = some (decide ((0 ≤ a.Mask ∧ a.Mask ≤ ((2 ^ N : Nat) : Int) - 1) ∧ 0 ≤ a.Turn ∧ a.Turn ≤ 1)) := by
  obtain ⟨P1, P2, P3⟩ := ps_pow hN
  obtain ⟨s1, _⟩ := ps_shl1 (v := N) (by omega)
  unfold F_impl_isAffine
  rw [chk_t (by omega), s1, ps_w (by omega), ps_within]
  simp only [Option.bind_some, ps_within]
  generalize ((2 ^ N : Nat) : Int) - 1 = A
  by_cases h1 : 0 ≤ a.Mask ∧ a.Mask ≤ A
  · by_cases h2 : 0 ≤ a.Turn ∧ a.Turn ≤ 1
    · simp [h1, h2, gb]
    · have e : (decide (0 ≤ a.Turn) && decide (a.Turn ≤ 1)) = false := by rw [Bool.and_eq_false_iff, decide_eq_false_iff_not, decide_eq_false_iff_not]; omega
      rw [e]
      simp [h2, gb_some, gb]
  · have e : (decide (0 ≤ a.Mask) && decide (a.Mask ≤ A)) = false := by rw [Bool.and_eq_false_iff, decide_eq_false_iff_not, decide_eq_false_iff_not]; omega
    rw [e, decide_eq_false (show ¬ ((0 ≤ a.Mask ∧ a.Mask ≤ A) ∧ 0 ≤ a.Turn ∧ a.Turn ≤ 1) from fun h => h1 h.1)]
    rfl
theorem ps_valid {p : TPathSum} (h1 : p.Terms.length ≤ 1099511627776) (h2 : p.Out.length ≤ 1099511627776) :
    ∃ b, F_spec_l21Valid p = some b ∧ F_impl_IsValidPathSum p = some b ∧ (b = true → ∃ N, N ≤ 24 ∧ PsOk p N) := by
  unfold F_spec_l21Valid F_impl_IsValidPathSum
  simp only [ps_within, ps_in, Option.bind_some]
  by_cases hI : 1 ≤ p.Ins ∧ p.Ins ≤ 5
  · rw [ps_w (a := 24 - p.Ins) (by omega)]
    by_cases hV : 0 ≤ p.Vars ∧ p.Vars ≤ 24 - p.Ins
    · by_cases hR : -60 ≤ p.Root ∧ p.Root ≤ 60
      · by_cases hP : 0 ≤ p.Phase ∧ p.Phase ≤ 7
        · have e1 : (decide (1 ≤ p.Ins) && decide (p.Ins ≤ 5)) = true := by simp [hI]
          have e2 : (decide (0 ≤ p.Vars) && decide (p.Vars ≤ 24 - p.Ins)) = true := by simp [hV]
          have e3 : (decide (-60 ≤ p.Root) && decide (p.Root ≤ 60)) = true := by simp [hR]
          have e4 : (decide (0 ≤ p.Phase) && decide (p.Phase ≤ 7)) = true := by simp [hP]
          rw [e1, e2, e3, e4]
          simp only [Bool.not_true, Bool.not_false, gb, cond_true, Option.bind_some, Bool.or_self, Bool.false_or]
          by_cases hO : (p.Out.length : Int) = p.Ins
          · have e5 : ((p.Out.length : Int) != p.Ins) = false := by simp [hO]
            rw [e5, cond_false, cond_false, chk_t (by omega), chk_t (by omega)]
            obtain ⟨N, hN⟩ : ∃ N : Nat, p.Ins + p.Vars = (N : Int) := ⟨(p.Ins + p.Vars).toNat, by omega⟩
            have hN24 : N ≤ 24 := by omega
            rcases forX2_inv (f := F_spec_l21Valid_l1 p) (g := F_impl_IsValidPathSum_l1 p) (fun j _ _ => ∀ (i : Nat) (x : TTerm), i < j → p.Terms[i]? = some x → (1 ≤ x.Mask ∧ x.Mask ≤ ((2 ^ N : Nat) : Int) - 1) ∧ 1 ≤ x.Coef ∧ x.Coef ≤ 7 ∧ (0 < i → ∀ y : TTerm, p.Terms[i - 1]? = some y → y.Mask < x.Mask)) (fun r r' => r = false ∧ r' = false) p.Terms.length 0 () () (fun i x hi => absurd hi (Nat.not_lt_zero _)) (fun j s t _ hj hI => by
              have hx := List.getElem?_eq_getElem (show j < p.Terms.length by omega)
              rcases ps_term hN24 hN h1 hx with ⟨f1, f2, f3⟩ | ⟨f1, f2⟩
              · refine .inl ⟨(), (), f1, f2, fun i x hi hix => ?_⟩
                rcases Nat.lt_succ_iff_lt_or_eq.1 hi with h | h
                · exact hI i x h hix
                · subst h
                  rw [hx] at hix; cases hix
                  exact f3
              · exact .inr ⟨false, false, f1, f2, rfl, rfl⟩) with ⟨s, t, f1, f2, f3⟩ | ⟨r, r', f1, f2, rfl, rfl⟩
            · rw [f1, f2]
              simp only [orR, Option.bind_some]
              rw [chk_t (by omega)]
              obtain ⟨P1, P2, P3⟩ := ps_pow hN24
              obtain ⟨s1, _⟩ := ps_shl1 (v := N) (by omega)
              have hu : IntKind.u64.wrap (N : Int) = (N : Int) := wrapU (by omega)
              let bad : TAffine → Bool := fun a => !decide ((0 ≤ a.Mask ∧ a.Mask ≤ ((2 ^ N : Nat) : Int) - 1) ∧ 0 ≤ a.Turn ∧ a.Turn ≤ 1)
              have hs : ∀ (i : Nat) (a : TAffine), p.Out[i]? = some a → F_spec_l21Valid_l2 p i () = some (bif bad a then .rt false else .nx ()) := fun i a ha => by
                unfold F_spec_l21Valid_l2
                rw [getI_nat, ha, hN, ps_w (a := (N : Int)) (by omega), hu, s1, ps_w (a := ((2 ^ N : Nat) : Int) - 1) (by omega)]
                simp only [Option.bind_some, ps_in]
                rw [chk_t (by omega)]
                show _ = some (bif (!decide ((0 ≤ a.Mask ∧ a.Mask ≤ ((2 ^ N : Nat) : Int) - 1) ∧ 0 ≤ a.Turn ∧ a.Turn ≤ 1)) then _ else _)
                by_cases h3 : 0 ≤ a.Mask ∧ a.Mask ≤ ((2 ^ N : Nat) : Int) - 1
                · have e6 : (decide (0 ≤ a.Mask) && decide (a.Mask ≤ ((2 ^ N : Nat) : Int) - 1)) = true := by simp only [Bool.and_eq_true, decide_eq_true_eq]; exact h3
                  rw [e6]
                  by_cases h4 : 0 ≤ a.Turn ∧ a.Turn ≤ 1
                  · have e7 : (decide (0 ≤ a.Turn) && decide (a.Turn ≤ 1)) = true := by simp only [Bool.and_eq_true, decide_eq_true_eq]; exact h4
                    rw [e7, decide_eq_true (show _ from ⟨h3, h4⟩)]; rfl
                  · have e7 : (decide (0 ≤ a.Turn) && decide (a.Turn ≤ 1)) = false := by rw [Bool.and_eq_false_iff, decide_eq_false_iff_not, decide_eq_false_iff_not]; omega
                    rw [e7, decide_eq_false (show ¬ ((0 ≤ a.Mask ∧ a.Mask ≤ ((2 ^ N : Nat) : Int) - 1) ∧ 0 ≤ a.Turn ∧ a.Turn ≤ 1) from fun h => h4 h.2)]; rfl
                · have e6 : (decide (0 ≤ a.Mask) && decide (a.Mask ≤ ((2 ^ N : Nat) : Int) - 1)) = false := by rw [Bool.and_eq_false_iff, decide_eq_false_iff_not, decide_eq_false_iff_not]; omega
                  rw [e6, decide_eq_false (show ¬ ((0 ≤ a.Mask ∧ a.Mask ≤ ((2 ^ N : Nat) : Int) - 1) ∧ 0 ≤ a.Turn ∧ a.Turn ≤ 1) from fun h => h3 h.1)]; rfl
              have hi : F_slices_ContainsFunc_impl_Affine_impl_Affine p.Out (fun x_0 => F_impl_IsValidPathSum_1 x_0 (IntKind.i64.wrap (p.Ins + p.Vars))) = some (p.Out.any bad) := by
                unfold F_slices_ContainsFunc_impl_Affine_impl_Affine F_slices_IndexFunc_impl_Affine_impl_Affine
                rw [chk_t (by omega), hN, ps_w (a := (N : Int)) (by omega)]
                rcases forX_any (f := F_slices_IndexFunc_impl_Affine_impl_Affine_l1 p.Out fun x_0 => F_impl_IsValidPathSum_1 x_0 (N : Int)) (l := p.Out) (p := bad) (q := fun i => (i : Int)) (fun i x hx => by
                  unfold F_slices_IndexFunc_impl_Affine_impl_Affine_l1 F_impl_IsValidPathSum_1
                  simp only [getI_nat, hx, Option.bind_some, ps_affine hN24]
                  show (bif bad x then _ else _) = _
                  cases bad x <;> rfl) with ⟨g1, g2⟩ | ⟨g1, i, _, g2⟩
                · rw [g2, g1]; rfl
                · rw [g2, g1]; simp [orR]
              rw [hi]
              simp only [Option.bind_some]
              rcases forX_any (f := F_spec_l21Valid_l2 p) (l := p.Out) (p := bad) (q := fun _ => false) hs with ⟨g1, g2⟩ | ⟨g1, i, _, g2⟩
              · rw [g2, g1]
                refine ⟨true, rfl, rfl, fun _ => ⟨N, hN24, hI, hV, hP, hO, hN, fun i x hix => ?_, fun a ha => ?_⟩⟩
                · exact f3 i x (by have := (List.getElem?_eq_some_iff.1 hix).1; omega) hix
                · have := List.any_eq_false.1 g1 a ha
                  simpa [bad] using this
              · rw [g2, g1]
                exact ⟨false, rfl, rfl, fun h => by cases h⟩
            · rw [f1, f2]
              exact ⟨false, rfl, by first | rfl | (rw [chk_t (by omega)]; rfl), fun h => by cases h⟩
          · have e5 : ((p.Out.length : Int) != p.Ins) = true := by simpa using hO
            rw [e5]
            exact ⟨false, rfl, rfl, fun h => by cases h⟩
        · have e4 : (decide (0 ≤ p.Phase) && decide (p.Phase ≤ 7)) = false := by rw [Bool.and_eq_false_iff, decide_eq_false_iff_not, decide_eq_false_iff_not]; omega
          refine ⟨false, ?_, ?_, fun h => by cases h⟩
          all_goals
            simp [e4, hI, hV, hR, gb]
      · have e3 : (decide (-60 ≤ p.Root) && decide (p.Root ≤ 60)) = false := by rw [Bool.and_eq_false_iff, decide_eq_false_iff_not, decide_eq_false_iff_not]; omega
        refine ⟨false, ?_, ?_, fun h => by cases h⟩
        all_goals
          simp [e3, hI, hV, gb]
    · have e2 : (decide (0 ≤ p.Vars) && decide (p.Vars ≤ 24 - p.Ins)) = false := by rw [Bool.and_eq_false_iff, decide_eq_false_iff_not, decide_eq_false_iff_not]; omega
      refine ⟨false, ?_, ?_, fun h => by cases h⟩
      all_goals
        simp [e2, hI, gb]
  · have e1 : (decide (1 ≤ p.Ins) && decide (p.Ins ≤ 5)) = false := by rw [Bool.and_eq_false_iff, decide_eq_false_iff_not, decide_eq_false_iff_not]; omega
    refine ⟨false, ?_, ?_, fun h => by cases h⟩
    all_goals
      simp [e1, gb]

theorem pigeon : ∀ (B : Nat) (l : List Nat), l.Nodup → (∀ x ∈ l, x < B) → l.length ≤ B
  | 0, l, _, h => by
    cases l with
    | nil => simp
    | cons a l => exact absurd (h a (.head _)) (Nat.not_lt_zero _)
  | B + 1, l, hn, h => by
    by_cases hB : B ∈ l
    · have ih := pigeon B (l.erase B) (hn.erase B) (fun x hx => by
        have h1 := h x (List.mem_of_mem_erase hx)
        have h2 : x ≠ B := fun e => by
          subst e
          exact (List.Nodup.mem_erase_iff hn).1 hx |>.1 rfl
        omega)
      rw [List.length_erase_of_mem hB] at ih
      omega
    · have ih := pigeon B l hn (fun x hx => by
        have h1 := h x hx
        have h2 : x ≠ B := fun e => hB (e ▸ hx)
        omega)
      omega
structure TmOk (T : List TTerm) : Prop where
  srt : T.Pairwise fun a b => a.Mask < b.Mask
  rng : ∀ t ∈ T, 1 ≤ t.Mask ∧ t.Mask < 16777216 ∧ 1 ≤ t.Coef ∧ t.Coef ≤ 7
def cofT (T : List TTerm) (j : Nat) : Int := match T.find? (fun t => t.Mask == (j : Int)) with | some t => t.Coef | none => 0
theorem TmOk.len {T : List TTerm} (h : TmOk T) : T.length ≤ 16777216 := by
  have h1 : (T.map fun t => t.Mask.toNat).Nodup := by
    unfold List.Nodup
    rw [List.pairwise_map]
    refine h.srt.imp_of_mem ?_
    intro a b ha hb hlt
    have := h.rng a ha; have := h.rng b hb
    omega
  have := pigeon 16777216 _ h1 (fun x hx => by
    obtain ⟨t, ht, rfl⟩ := List.mem_map.1 hx
    have := h.rng t ht
    omega)
  simpa using this
theorem TmOk.nodup {T : List TTerm} (h : TmOk T) : T.Nodup := h.srt.imp (fun {a b} hlt e => by subst e; omega)
theorem TmOk.inj {T : List TTerm} (h : TmOk T) {a b : TTerm} (ha : a ∈ T) (hb : b ∈ T) (he : a.Mask = b.Mask) : a = b := by
  obtain ⟨i, hi, rfl⟩ := List.getElem_of_mem ha
  obtain ⟨j, hj, rfl⟩ := List.getElem_of_mem hb
  have hp := List.pairwise_iff_getElem.1 h.srt
  rcases Nat.lt_trichotomy i j with h' | h' | h'
  · have := hp i j hi hj h'; omega
  · subst h'; rfl
  · have := hp j i hj hi h'; omega
theorem cof_mem {T : List TTerm} (h : TmOk T) {t : TTerm} (ht : t ∈ T) {j : Nat} (hj : t.Mask = (j : Int)) : cofT T j = t.Coef := by
  unfold cofT
  cases hf : T.find? (fun t => t.Mask == (j : Int)) with
  | none =>
    have := List.find?_eq_none.1 hf t ht
    simp [hj] at this
  | some t' =>
    have h1 := List.mem_of_find?_eq_some hf
    have h2 := List.find?_some hf
    have h3 : t'.Mask = (j : Int) := by simpa using h2
    rw [h.inj h1 ht (h3.trans hj.symm)]
theorem cof_no {T : List TTerm} {j : Nat} (h : ∀ t ∈ T, t.Mask ≠ (j : Int)) : cofT T j = 0 := by
  unfold cofT
  rw [List.find?_eq_none.2 (fun t ht => by simpa using h t ht)]
theorem cof_cases {T : List TTerm} (h : TmOk T) (j : Nat) : (∃ t ∈ T, t.Mask = (j : Int) ∧ cofT T j = t.Coef) ∨ (cofT T j = 0 ∧ ∀ t ∈ T, t.Mask ≠ (j : Int)) := by
  by_cases hj : ∃ t ∈ T, t.Mask = (j : Int)
  · obtain ⟨t, ht, he⟩ := hj
    exact .inl ⟨t, ht, he, cof_mem h ht he⟩
  · have : ∀ t ∈ T, t.Mask ≠ (j : Int) := fun t ht e => hj ⟨t, ht, e⟩
    exact .inr ⟨cof_no this, this⟩
theorem cof_upd {T T' : List TTerm} (hT : TmOk T) (hT' : TmOk T') {m : Nat} {c : Int} (hne : ∀ t : TTerm, t.Mask ≠ (m : Int) → (t ∈ T' ↔ t ∈ T)) (hm : (∃ t ∈ T', t.Mask = (m : Int) ∧ t.Coef = c) ∨ (c = 0 ∧ ∀ t ∈ T', t.Mask ≠ (m : Int))) (j : Nat) :
    cofT T' j = if j = m then c else cofT T j := by
  by_cases hj : j = m
  · subst hj
    rw [if_pos rfl]
    rcases hm with ⟨t, ht, h1, h2⟩ | ⟨rfl, h⟩
    · rw [cof_mem hT' ht h1, h2]
    · exact cof_no h
  · rw [if_neg hj]
    rcases cof_cases hT j with ⟨t, ht, h1, h2⟩ | ⟨h1, h2⟩
    · rw [h2, cof_mem hT' ((hne t (by omega)).2 ht) h1]
    · rw [h1]
      exact cof_no (fun t ht e => h2 t ((hne t (by omega)).1 ht) e)
/-- Two lists of terms in order with the same coefficients are one. -/
theorem tm_ext {T T' : List TTerm} (hT : TmOk T) (hT' : TmOk T') (h : ∀ j : Nat, 1 ≤ j → cofT T j = cofT T' j) : T = T' := by
  have key : ∀ {T T' : List TTerm}, TmOk T → TmOk T' → (∀ j : Nat, 1 ≤ j → cofT T j = cofT T' j) → ∀ t ∈ T, t ∈ T' := fun {T T'} hT hT' h t ht => by
    have hr := hT.rng t ht
    obtain ⟨j, hj⟩ : ∃ j : Nat, t.Mask = (j : Int) := ⟨t.Mask.toNat, by omega⟩
    have h1 := cof_mem hT ht hj
    rw [h j (by omega)] at h1
    rcases cof_cases hT' j with ⟨t', ht', h2, h3⟩ | ⟨h2, _⟩
    · have : t = t' := by
        cases t; cases t'
        simp only at hj h2 h1 h3
        rw [TTerm.mk.injEq]
        exact ⟨by omega, by omega⟩
      rw [this]; exact ht'
    · omega
  have hp : T.Perm T' := (List.perm_ext_iff_of_nodup hT.nodup hT'.nodup).2 fun t => ⟨key hT hT' h t, key hT' hT (fun j hj => (h j hj).symm) t⟩
  exact List.Perm.eq_of_pairwise (le := fun a b : TTerm => a.Mask < b.Mask) (fun a b _ _ h1 h2 => by omega) hT.srt hT'.srt hp
def sf (ph : Int) (T : List TTerm) (j : Nat) : Int := if j = 0 then ph else cofT T j
theorem k8 {k : Int} (h : -1000000 ≤ k ∧ k ≤ 1000000) : Int.tmod (IntKind.i64.wrap (Int.tmod k 8 + 8)) 8 = k % 8 := by
  have h1 : -8 < Int.tmod k 8 ∧ Int.tmod k 8 < 8 := ⟨by have := Int.lt_tmod_of_pos k (show (0 : Int) < 8 by decide); omega, Int.tmod_lt_of_pos k (by decide)⟩
  rw [ps_w (by omega)]
  have h2 := Int.tmod_add_mul_tdiv k 8
  rw [Int.tmod_eq_emod_of_nonneg (by omega)]
  omega
theorem k8' {k : Int} (h : 0 ≤ k ∧ k ≤ 1000000) : Int.tmod (IntKind.i64.wrap k) 8 = k % 8 := by
  rw [ps_w (by omega), Int.tmod_eq_emod_of_nonneg (by omega)]
theorem at_loop {ph : Int} {T A C : List TTerm} {m : Int} (hTA : T = A ++ C) (hA : ∀ t ∈ A, t.Mask < m) (hC : ∀ t, C.head? = some t → m ≤ t.Mask) (hl : T.length ≤ 16777216) : ∀ (d i q : Nat), i + d = A.length → d < q → whX (F_spec_l21Sum_add_l1 (Tl21Sum.mk ph T) m) q (i : Int) = some (.inl (A.length : Int))
  | _, _, 0, _, h => absurd h (Nat.not_lt_zero _)
  | 0, i, q + 1, hi, _ => by
    have : i = A.length := by omega
    subst this
    simp only [whX]
    have e : F_spec_l21Sum_add_l1 (Tl21Sum.mk ph T) m (A.length : Int) = some (.br (A.length : Int)) := by
      unfold F_spec_l21Sum_add_l1
      simp only
      cases hc : C with
      | nil =>
        rw [decide_eq_false (show ¬ (A.length : Int) < (T.length : Int) by rw [hTA, hc]; simp)]
        rfl
      | cons c C' =>
        rw [decide_eq_true (show (A.length : Int) < (T.length : Int) by rw [hTA, hc]; simp; omega), getI_nat]
        have hg : T[A.length]? = some c := by rw [hTA, hc]; simp
        rw [hg]
        simp only [gb, cond_true, Option.bind_some, Bool.true_and]
        rw [decide_eq_false (show ¬ c.Mask < m by have := hC c (by rw [hc]; rfl); omega)]
        rfl
    rw [e]; rfl
  | d + 1, i, q + 1, hi, hq => by
    have ih := at_loop (ph := ph) hTA hA hC hl d (i + 1) q (by omega) (by omega)
    rw [← ih]
    simp only [whX]
    have hia : i < A.length := by omega
    have hTl : T.length = A.length + C.length := by rw [hTA]; simp
    have e : F_spec_l21Sum_add_l1 (Tl21Sum.mk ph T) m (i : Int) = some (.nx ((i + 1 : Nat) : Int)) := by
      unfold F_spec_l21Sum_add_l1
      simp only
      rw [decide_eq_true (show (i : Int) < (T.length : Int) by omega), getI_nat]
      have hg : T[i]? = some A[i] := by rw [hTA, List.getElem?_append_left hia, List.getElem?_eq_getElem hia]
      rw [hg]
      simp only [gb, cond_true, Option.bind_some, Bool.true_and]
      rw [decide_eq_true (hA _ (List.getElem_mem hia)), ps_w (by omega)]
      rfl
    rw [e]; rfl
theorem tm_ins {A C : List TTerm} {m c : Int} (h : TmOk (A ++ C)) (hA : ∀ t ∈ A, t.Mask < m) (hC : ∀ t ∈ C, m < t.Mask) (hm : 1 ≤ m ∧ m < 16777216) (hc : 1 ≤ c ∧ c ≤ 7) : TmOk (A ++ TTerm.mk m c :: C) := by
  obtain ⟨h1, h2⟩ := h
  rw [List.pairwise_append] at h1
  refine ⟨?_, fun t ht => ?_⟩
  · rw [List.pairwise_append, List.pairwise_cons]
    refine ⟨h1.1, ⟨fun t ht => hC t ht, h1.2.1⟩, fun a ha b hb => ?_⟩
    rcases List.mem_cons.1 hb with rfl | hb
    · exact hA a ha
    · exact h1.2.2 a ha b hb
  · rcases List.mem_append.1 ht with ht | ht
    · exact h2 t (List.mem_append_left _ ht)
    · rcases List.mem_cons.1 ht with rfl | ht
      · exact ⟨hm.1, hm.2, hc.1, hc.2⟩
      · exact h2 t (List.mem_append_right _ ht)
theorem tm_sub {T T' : List TTerm} (h : TmOk T) (hs : T'.Sublist T) : TmOk T' := ⟨h.srt.sublist hs, fun t ht => h.rng t (hs.subset ht)⟩
theorem tm_split (m : Int) : ∀ {T : List TTerm}, (T.Pairwise fun a b => a.Mask < b.Mask) → ∃ A C, T = A ++ C ∧ (∀ t ∈ A, t.Mask < m) ∧ ∀ t ∈ C, m ≤ t.Mask
  | [], _ => ⟨[], [], rfl, (fun _ h => by cases h), (fun _ h => by cases h)⟩
  | x :: T, h => by
    obtain ⟨h1, h2⟩ := List.pairwise_cons.1 h
    by_cases hx : x.Mask < m
    · obtain ⟨A, C, rfl, hA, hC⟩ := tm_split m h2
      refine ⟨x :: A, C, rfl, fun t ht => ?_, hC⟩
      rcases List.mem_cons.1 ht with rfl | ht
      · exact hx
      · exact hA t ht
    · refine ⟨[], x :: T, rfl, (fun _ h => by cases h), fun t ht => ?_⟩
      rcases List.mem_cons.1 ht with rfl | ht
      · omega
      · have := h1 t ht; omega
theorem s_add {ph : Int} {T : List TTerm} (hp : 0 ≤ ph ∧ ph ≤ 7) (hT : TmOk T) {m : Nat} (hm : m < 16777216) {k : Int} (hk : -1000 ≤ k ∧ k ≤ 1000) :
    ∃ ph' T', F_spec_l21Sum_add (Tl21Sum.mk ph T) (m : Int) k = some (Tl21Sum.mk ph' T') ∧ (0 ≤ ph' ∧ ph' ≤ 7) ∧ TmOk T' ∧ ∀ j, sf ph' T' j = if j = m then (sf ph T m + k) % 8 else sf ph T j := by
  have hlen := hT.len
  unfold F_spec_l21Sum_add
  simp only
  rw [k8 (by omega)]
  by_cases h0 : m = 0
  · subst h0
    rw [show (((0 : Nat) : Int) == 0) = true from rfl, cond_true, k8' (by omega)]
    refine ⟨_, T, rfl, by omega, hT, fun j => ?_⟩
    unfold sf
    by_cases hj : j = 0
    · subst hj; simp only [if_true]; omega
    · simp [hj]
  · rw [show ((m : Int) == 0) = false by simpa using h0, cond_false]
    have sfm : ∀ {ph : Int} {T : List TTerm}, sf ph T m = cofT T m := fun {ph T} => by unfold sf; rw [if_neg h0]
    by_cases hk0 : k % 8 = 0
    · rw [hk0, show ((0 : Int) == 0) = true from rfl, cond_true]
      refine ⟨ph, T, rfl, hp, hT, fun j => ?_⟩
      by_cases hj : j = m
      · subst hj
        rw [if_pos rfl, sfm]
        rcases cof_cases hT j with ⟨t, ht, h1, h2⟩ | ⟨h1, h2⟩
        · have := hT.rng t ht; omega
        · omega
      · rw [if_neg hj]
    · have hkb : 1 ≤ k % 8 ∧ k % 8 ≤ 7 := by omega
      rw [show ((k % 8) == 0) = false by simpa using hk0, cond_false]
      have hkk : ∀ a : Int, (a + k) % 8 = (a + k % 8) % 8 := fun a => by omega
      generalize k % 8 = k' at hkb hkk ⊢
      obtain ⟨A, C, rfl, hA, hC⟩ := tm_split (m : Int) hT.srt
      have hAC : (A ++ C).length = A.length + C.length := List.length_append
      have hloop := at_loop (ph := ph) (T := A ++ C) rfl hA (fun t ht => hC t (List.mem_of_mem_head? ht)) hlen A.length 0 fuel (by omega) (fuelB (by omega))
      rw [show ((0 : Nat) : Int) = (0 : Int) from rfl] at hloop
      rw [hloop]
      simp only [orR, Option.bind_some]
      have tA : List.take (A.length : Int).toNat (A ++ C) = A := by rw [Int.toNat_natCast, List.take_left]
      have dA : List.drop (A.length : Int).toNat (A ++ C) = C := by rw [Int.toNat_natCast, List.drop_left]
      have hp2 := List.pairwise_append.1 hT.srt
      -- the list with the term laid in
      have lay : (∀ t ∈ C, (m : Int) < t.Mask) → ∃ ph' T', (chk ((0 : Int) ≤ (A.length : Int) ∧ (A.length : Int) ≤ ((A ++ C).length : Int)) <| chk (0 + ((A ++ C).length - (A.length : Int).toNat) ≤ 1099511627776) <| chk ((0 : Int) ≤ (A.length : Int) ∧ (A.length : Int) ≤ ((A ++ C).length : Int)) <| chk (0 + (A.length : Int).toNat ≤ 1099511627776) <|
          chk (((List.take (A.length : Int).toNat (A ++ C)).length) + 1 ≤ 1099511627776) <| chk ((((List.take (A.length : Int).toNat (A ++ C)) ++ [(TTerm.mk (m : Int) k')]).length) + ((List.drop (A.length : Int).toNat (A ++ C)).length) ≤ 1099511627776) <|
          some ((Tl21Sum.mk ph (((List.take (A.length : Int).toNat (A ++ C)) ++ [(TTerm.mk (m : Int) k')]) ++ (List.drop (A.length : Int).toNat (A ++ C)))))) = some (Tl21Sum.mk ph' T') ∧ (0 ≤ ph' ∧ ph' ≤ 7) ∧ TmOk T' ∧ ∀ j, sf ph' T' j = if j = m then (sf ph (A ++ C) m + k) % 8 else sf ph (A ++ C) j := fun hCm => by
        rw [tA, dA, chk_t (by omega), chk_t (by omega), chk_t (by omega), chk_t (by omega), chk_t (by omega), chk_t (by rw [List.length_append]; simp only [List.length_singleton]; omega)]
        have hT' : TmOk (A ++ TTerm.mk (m : Int) k' :: C) := tm_ins hT hA hCm (by omega) hkb
        have hno : ∀ t ∈ A ++ C, t.Mask ≠ (m : Int) := fun t ht => by
          rcases List.mem_append.1 ht with ht | ht
          · have := hA t ht; omega
          · have := hCm t ht; omega
        refine ⟨ph, A ++ TTerm.mk (m : Int) k' :: C, by rw [List.append_assoc]; rfl, hp, hT', fun j => ?_⟩
        have hu := cof_upd hT hT' (m := m) (c := k') (fun t ht => by
          simp only [List.mem_append, List.mem_cons]
          constructor
          · rintro (h | rfl | h)
            · exact .inl h
            · exact absurd rfl ht
            · exact .inr h
          · rintro (h | h)
            · exact .inl h
            · exact .inr (.inr h)) (.inl ⟨TTerm.mk (m : Int) k', by simp, rfl, rfl⟩) j
        rw [sfm, cof_no hno, hkk]
        unfold sf
        by_cases hj0 : j = 0
        · subst hj0
          rw [if_pos rfl, if_neg (fun e => h0 e.symm), if_pos rfl]
        · rw [if_neg hj0, if_neg hj0, hu]
          by_cases hj : j = m
          · rw [if_pos hj, if_pos hj]; omega
          · rw [if_neg hj, if_neg hj]
      have hcc : C = [] ∨ ∃ c C', C = c :: C' := by
        cases C with
        | nil => exact .inl rfl
        | cons c C' => exact .inr ⟨c, C', rfl⟩
      rcases hcc with hc | ⟨c, C', hc⟩
      · rw [decide_eq_false (show ¬ (A.length : Int) < ((A ++ C).length : Int) by rw [hAC, hc]; simp), gb_f rfl]
        simp only [Option.bind_some, Bool.false_and, cond_false]
        exact lay (fun t ht => by rw [hc] at ht; cases ht)
      · have hlC : C.length = C'.length + 1 := by rw [hc]; rfl
        rw [decide_eq_true (show (A.length : Int) < ((A ++ C).length : Int) by omega), gb_t rfl, getI_nat]
        have hg : (A ++ C)[A.length]? = some c := by rw [hc]; simp
        rw [hg]
        simp only [Option.bind_some, Bool.true_and]
        have hcC : c ∈ C := by rw [hc]; exact .head _
        have hcr := hT.rng c (List.mem_append_right _ hcC)
        have hcm := hC c hcC
        by_cases heq : c.Mask = (m : Int)
        · rw [show (c.Mask == (m : Int)) = true by simpa using heq, cond_true]
          have h1 : IntKind.i64.wrap ((A.length : Int) + 1) = ((A.length + 1 : Nat) : Int) := by rw [ps_w (by omega)]; omega
          have dA1 : List.drop (((A.length + 1 : Nat) : Int)).toNat (A ++ C) = C' := by
            rw [Int.toNat_natCast, hc, List.drop_append, List.drop_eq_nil_of_le (by omega), Nat.add_sub_cancel_left]; rfl
          rw [h1, dA1, tA, k8' (by omega), chk_t (by omega), chk_t (by omega), chk_t (by omega), chk_t (by omega)]
          have hC'm : ∀ t ∈ C', (m : Int) < t.Mask := fun t ht => by
            have := hp2.2.1
            rw [hc, List.pairwise_cons] at this
            have := this.1 t ht
            omega
          have hsub : (A ++ C').Sublist (A ++ C) := by rw [hc]; exact (List.Sublist.refl A).append (List.sublist_cons_self c C')
          have hT1 := tm_sub hT hsub
          have hmem : ∀ t : TTerm, t.Mask ≠ (m : Int) → (t ∈ A ++ C' ↔ t ∈ A ++ C) := fun t ht => by
            rw [hc]
            simp only [List.mem_append, List.mem_cons]
            constructor
            · rintro (h | h)
              · exact .inl h
              · exact .inr (.inr h)
            · rintro (h | rfl | h)
              · exact .inl h
              · exact absurd heq ht
              · exact .inr h
          have hno : ∀ t ∈ A ++ C', t.Mask ≠ (m : Int) := fun t ht => by
            rcases List.mem_append.1 ht with ht | ht
            · have := hA t ht; omega
            · have := hC'm t ht; omega
          have hcof : cofT (A ++ C) m = c.Coef := cof_mem hT (List.mem_append_right _ hcC) heq
          have fin_ : ∀ {T' : List TTerm}, TmOk T' → (∀ j, cofT T' j = if j = m then (k' + c.Coef) % 8 else cofT (A ++ C) j) → ∀ j, sf ph T' j = if j = m then (sf ph (A ++ C) m + k) % 8 else sf ph (A ++ C) j := fun {T'} hT' hu j => by
            rw [sfm, hcof, hkk]
            unfold sf
            by_cases hj0 : j = 0
            · subst hj0
              rw [if_pos rfl, if_neg (fun e => h0 e.symm), if_pos rfl]
            · rw [if_neg hj0, if_neg hj0, hu]
              by_cases hj : j = m
              · rw [if_pos hj, if_pos hj]; omega
              · rw [if_neg hj, if_neg hj]
          by_cases hpos : 0 < (k' + c.Coef) % 8
          · rw [decide_eq_true hpos, cond_true, chk_t (by omega)]
            simp only [Option.bind_some]
            rw [chk_t (by rw [List.length_append]; simp only [List.length_singleton]; omega)]
            have hT' : TmOk (A ++ TTerm.mk (m : Int) ((k' + c.Coef) % 8) :: C') := tm_ins hT1 hA hC'm (by omega) (by omega)
            refine ⟨ph, _, by rw [List.append_assoc]; rfl, hp, hT', fin_ hT' ?_⟩
            refine cof_upd hT hT' (fun t ht => ?_) (.inl ⟨TTerm.mk (m : Int) ((k' + c.Coef) % 8), by simp, rfl, rfl⟩)
            rw [← hmem t ht]
            simp only [List.mem_append, List.mem_cons]
            constructor
            · rintro (h | rfl | h)
              · exact .inl h
              · exact absurd rfl ht
              · exact .inr h
            · rintro (h | h)
              · exact .inl h
              · exact .inr (.inr h)
          · rw [decide_eq_false hpos, cond_false]
            simp only [Option.bind_some]
            rw [chk_t (by omega)]
            exact ⟨ph, _, rfl, hp, hT1, fin_ hT1 (cof_upd hT hT1 hmem (.inr ⟨by omega, hno⟩))⟩
        · rw [show (c.Mask == (m : Int)) = false by simpa using heq, cond_false]
          refine lay (fun t ht => ?_)
          rw [hc] at ht
          rcases List.mem_cons.1 ht with rfl | ht
          · omega
          · have := hp2.2.1
            rw [hc, List.pairwise_cons] at this
            have := this.1 t ht
            omega
structure MpOk (l : List (Int × Int)) : Prop where
  key : l.Pairwise fun a b => a.1 ≠ b.1
  rng : ∀ q ∈ l, 0 ≤ q.1 ∧ q.1 < 16777216 ∧ 0 ≤ q.2 ∧ q.2 ≤ 7
theorem MpOk.len {l : List (Int × Int)} (h : MpOk l) : l.length ≤ 16777216 := by
  have h1 : (l.map fun q => q.1.toNat).Nodup := by
    unfold List.Nodup
    rw [List.pairwise_map]
    refine h.key.imp_of_mem ?_
    intro a b ha hb hne
    have := h.rng a ha; have := h.rng b hb
    omega
  have := pigeon 16777216 _ h1 (fun x hx => by
    obtain ⟨t, ht, rfl⟩ := List.mem_map.1 hx
    have := h.rng t ht
    omega)
  simpa using this
theorem mfd_put {l : List (Int × Int)} {a b j : Int} : mfd (mput l a b) j = if j = a then some b else mfd l j := by
  induction l with
  | nil => unfold mput mfd mfd; by_cases h : a = j <;> simp [h, eq_comm]
  | cons q l ih =>
    obtain ⟨x, y⟩ := q
    unfold mput
    by_cases hx : x = a
    · rw [if_pos hx]
      subst hx
      unfold mfd
      by_cases h : x = j
      · simp [h]
      · have h' : ¬ j = x := fun e => h e.symm
        simp [h, h']
    · rw [if_neg hx]
      unfold mfd
      by_cases h : x = j
      · subst h; simp [hx]
      · simp only [if_neg h]; exact ih
theorem mgt_put {l : List (Int × Int)} {a b j : Int} : mgt (mput l a b) j 0 = if j = a then b else mgt l j 0 := by
  unfold mgt
  rw [mfd_put]
  split <;> rfl
theorem mput_mem {l : List (Int × Int)} {a b : Int} {q : Int × Int} (h : q ∈ mput l a b) : q = (a, b) ∨ q ∈ l := by
  induction l with
  | nil => unfold mput at h; simp at h; exact .inl h
  | cons x l ih =>
    obtain ⟨x, y⟩ := x
    unfold mput at h
    split at h
    · rcases List.mem_cons.1 h with h | h
      · exact .inl h
      · exact .inr (.tail _ h)
    · rcases List.mem_cons.1 h with h | h
      · exact .inr (by rw [h]; exact .head _)
      · exact (ih h).imp id (.tail _)
theorem mput_key {l : List (Int × Int)} {a b : Int} (h : l.Pairwise fun p q => p.1 ≠ q.1) : (mput l a b).Pairwise fun p q => p.1 ≠ q.1 := by
  induction l with
  | nil => unfold mput; simp
  | cons x l ih =>
    obtain ⟨x, y⟩ := x
    obtain ⟨h1, h2⟩ := List.pairwise_cons.1 h
    unfold mput
    split
    · rename_i hx
      subst hx
      exact List.pairwise_cons.2 ⟨h1, h2⟩
    · rename_i hx
      refine List.pairwise_cons.2 ⟨fun q hq => ?_, ih h2⟩
      rcases mput_mem hq with rfl | hq
      · exact hx
      · exact h1 q hq
theorem mgt_mem {l : List (Int × Int)} (h : l.Pairwise fun p q => p.1 ≠ q.1) {a b : Int} (hq : (a, b) ∈ l) : mgt l a 0 = b := by
  obtain ⟨j, hj⟩ := List.getElem?_of_mem hq
  unfold mgt
  rw [mfd_at hj h]; rfl
theorem mgt_no {l : List (Int × Int)} {a : Int} (h : ∀ q ∈ l, q.1 ≠ a) : mgt l a 0 = 0 := by
  unfold mgt
  rw [mfd_none h]; rfl
theorem mgt_rng {l : List (Int × Int)} (h : MpOk l) (a : Int) : 0 ≤ mgt l a 0 ∧ mgt l a 0 ≤ 7 := by
  by_cases hq : ∃ q ∈ l, q.1 = a
  · obtain ⟨⟨x, y⟩, hm, rfl⟩ := hq
    rw [mgt_mem h.key hm]
    have := h.rng _ hm
    exact ⟨this.2.2.1, this.2.2.2⟩
  · rw [mgt_no (fun q hm e => hq ⟨q, hm, e⟩)]; decide
theorem i_add {l : List (Int × Int)} (h : MpOk l) {m : Nat} (hm : m < 16777216) {k : Int} (hk : -1000 ≤ k ∧ k ≤ 1000) :
    ∃ l', F_impl_polynomial_add l (m : Int) k = some l' ∧ MpOk l' ∧ ∀ j : Nat, mgt l' (j : Int) 0 = if j = m then (mgt l (m : Int) 0 + k) % 8 else mgt l (j : Int) 0 := by
  have hr := mgt_rng h (m : Int)
  unfold F_impl_polynomial_add
  rw [ps_w (a := mgt l (m : Int) 0 + k) (by omega), k8 (by omega)]
  refine ⟨_, rfl, ⟨mput_key h.key, fun q hq => ?_⟩, fun j => ?_⟩
  · rcases mput_mem hq with rfl | hq
    · simp only; omega
    · exact h.rng q hq
  · rw [mgt_put]
    by_cases hj : j = m
    · subst hj; simp
    · rw [if_neg hj, if_neg (show ¬ (j : Int) = (m : Int) by omega)]
/-- The terms of a map. -/
theorem terms_ok {l : List (Int × Int)} (h : MpOk l) : F_impl_polynomial_terms l = some (termsOf l) ∧ TmOk (termsOf l) ∧ ∀ j : Nat, 1 ≤ j → cofT (termsOf l) j = mgt l (j : Int) 0 := by
  have hl := h.len
  have hmem : ∀ t : TTerm, t ∈ termsOf l ↔ (t.Mask, t.Coef) ∈ l ∧ 0 < t.Mask ∧ 0 < t.Coef := fun t => by
    unfold termsOf
    rw [(List.mergeSort_perm _ _).mem_iff, List.mem_filterMap]
    constructor
    · rintro ⟨q, hq, he⟩
      unfold tmF at he
      split at he
      · rename_i hp
        cases he
        exact ⟨hq, hp.1, hp.2⟩
      · cases he
    · rintro ⟨hq, h1, h2⟩
      exact ⟨_, hq, by unfold tmF; rw [if_pos ⟨h1, h2⟩]⟩
  have hkey : ((l.filterMap tmF).Pairwise fun a b => a.Mask ≠ b.Mask) := by
    rw [List.pairwise_filterMap]
    refine h.key.imp fun {a b} hab x hx y hy => ?_
    unfold tmF at hx hy
    split at hx <;> split at hy
    · cases hx; cases hy; exact hab
    · cases hy
    · cases hx
    · cases hx
  have hT : TmOk (termsOf l) := by
    refine ⟨?_, fun t ht => ?_⟩
    · have h1 : (termsOf l).Pairwise fun a b => a.Mask ≠ b.Mask := ((List.mergeSort_perm (l.filterMap tmF) _).symm.pairwise_iff (fun {a b} h => Ne.symm h)).1 hkey
      have h2 : (termsOf l).Pairwise fun a b => decide (a.Mask ≤ b.Mask) = true := List.pairwise_mergeSort (fun a b c h1 h2 => by simp at *; omega) (fun a b => by simp; omega) _
      exact (h1.and h2).imp (fun {a b} hab => by have := hab.2; simp at this; have := hab.1; omega)
    · obtain ⟨h1, h2, h3⟩ := (hmem t).1 ht
      have := h.rng _ h1
      exact ⟨by omega, this.2.1, by omega, this.2.2.2⟩
  refine ⟨?_, hT, fun j hj => ?_⟩
  · unfold F_impl_polynomial_terms
    rw [chk_t ⟨by omega, fun q hq => by have := (h.rng q hq).2.1; omega⟩]
  · rcases cof_cases hT j with ⟨t, ht, h1, h2⟩ | ⟨h1, h2⟩
    · rw [h2, ← h1, mgt_mem h.key ((hmem t).1 ht).1]
    · rw [h1]
      by_cases hq : ∃ q ∈ l, q.1 = (j : Int)
      · obtain ⟨⟨x, y⟩, hm, he⟩ := hq
        simp only at he
        subst he
        rw [mgt_mem h.key hm]
        have := h.rng _ hm
        by_cases hy : 0 < y
        · exact absurd rfl (h2 (TTerm.mk (j : Int) y) ((hmem _).2 ⟨hm, by simp only; omega, hy⟩))
        · simp only at this; omega
      · exact (mgt_no (fun q hm e => hq ⟨q, hm, e⟩)).symm

structure Rl (e : Nat → Nat) (D : Nat → Prop) (c : Int) (l : List (Int × Int)) (ph : Int) (T : List TTerm) : Prop where
  ran : 0 ≤ ph ∧ ph ≤ 7
  tm : TmOk T
  mp : MpOk l
  eq : ∀ j : Nat, D j → sf ph T (e j) = (mgt l (j : Int) 0 + (if j = 0 then c else 0)) % 8
  key : ∀ q ∈ l, D q.1.toNat
structure EM (e : Nat → Nat) (D : Nat → Prop) (f : Nat → Nat) : Prop where
  inj : ∀ a b, D a → D b → e a = e b → a = b
  bd : ∀ a, a < 16777216 → e a < 16777216
  or : ∀ a b, D a → D b → D (a ||| b) ∧ e (a ||| b) = e a ||| e b
  two : ∀ k, D (2 ^ k) → e (2 ^ k) = 2 ^ f k
  le : ∀ k, f k ≤ k
theorem rl_add {e : Nat → Nat} {D : Nat → Prop} {f : Nat → Nat} {c : Int} (E : EM e D f) {l : List (Int × Int)} {ph : Int} {T : List TTerm} (h : Rl e D c l ph T) {m : Nat} (hD : D m) (hm : m < 16777216) {k : Int} (hk : -1000 ≤ k ∧ k ≤ 1000) :
    ∃ ph' T' l', F_spec_l21Sum_add (Tl21Sum.mk ph T) ((e m : Nat) : Int) k = some (Tl21Sum.mk ph' T') ∧ F_impl_polynomial_add l (m : Int) k = some l' ∧ Rl e D c l' ph' T' := by
  obtain ⟨ph', T', h1, h2, h3, h4⟩ := s_add h.ran h.tm (E.bd m hm) hk
  obtain ⟨l', g1, g2, g3⟩ := i_add h.mp hm hk
  refine ⟨ph', T', l', h1, g1, ⟨h2, h3, g2, fun j hj => ?_, fun q hq => ?_⟩⟩
  · rw [h4, g3, h.eq m hD, h.eq j hj]
    by_cases hjm : j = m
    · subst hjm
      rw [if_pos rfl, if_pos rfl]
      generalize (if j = 0 then c else 0) = o
      omega
    · rw [if_neg hjm, if_neg (fun he => hjm (E.inj j m hj hD he))]
  · have hq' := hq
    unfold F_impl_polynomial_add at g1
    rw [← Option.some.inj g1] at hq
    rcases mput_mem hq with rfl | hq
    · simpa using hD
    · exact h.key q hq
theorem forN2 {σ τ : Type} {f : Nat → σ → Option σ} {g : Nat → τ → Option τ} (P : σ → τ → Prop) (n : Nat) (step : ∀ i, i < n → ∀ s t, P s t → ∃ s' t', f i s = some s' ∧ g i t = some t' ∧ P s' t') :
    ∀ (d i : Nat), i + d ≤ n → ∀ s t, P s t → ∃ s' t', forN f d i s = some s' ∧ forN g d i t = some t' ∧ P s' t'
  | 0, _, _, s, t, h => ⟨s, t, rfl, rfl, h⟩
  | d + 1, i, hi, s, t, h => by
    obtain ⟨s1, t1, e1, e2, h1⟩ := step i (by omega) s t h
    obtain ⟨s2, t2, e3, e4, h2⟩ := forN2 P n step d (i + 1) (by omega) s1 t1 h1
    refine ⟨s2, t2, ?_, ?_, h2⟩
    · simp only [forN, e1, Option.bind_some]; exact e3
    · simp only [forN, e2, Option.bind_some]; exact e4
theorem or24 {a b : Nat} (ha : a < 16777216) (hb : b < 16777216) : a ||| b < 16777216 := Nat.or_lt_two_pow (n := 24) ha hb
theorem two24 {k : Nat} (h : k < 24) : 2 ^ k < 16777216 := by
  have : (2 : Nat) ^ k ≤ 2 ^ 23 := Nat.pow_le_pow_right (by decide) (by omega)
  omega
theorem pw_at {S : List Nat} {i s : Nat} (h : S[i]? = some s) : getI (pwI S) (i : Int) = some ((2 ^ s : Nat) : Int) := by
  rw [getI_nat]; unfold pwI; rw [List.getElem?_map, h]; rfl
theorem pw_take {S : List Nat} {i j s : Nat} (hj : j < i) (h : S[j]? = some s) : getI (List.take i (pwI S)) (j : Int) = some ((2 ^ s : Nat) : Int) := by
  rw [getI_nat, List.getElem?_take_of_lt hj, ← getI_nat]; exact pw_at h
theorem cf_at {S : List Nat} {f : Nat → Nat} {i s : Nat} (h : S[i]? = some s) : getI (cI (S.map f)) (i : Int) = some ((f s : Nat) : Int) := by
  exact cI_get (by rw [List.getElem?_map, h]; rfl)
theorem cf_take {S : List Nat} {f : Nat → Nat} {i j s : Nat} (hj : j < i) (h : S[j]? = some s) : getI (List.take i (cI (S.map f))) (j : Int) = some ((f s : Nat) : Int) := by
  rw [getI_nat, List.getElem?_take_of_lt hj, ← getI_nat]; exact cf_at h
/-- The two multiplications of a parity. -/
theorem rl_times {e : Nat → Nat} {D : Nat → Prop} {f : Nat → Nat} {c : Int} (E : EM e D f) {l : List (Int × Int)} {ph : Int} {T : List TTerm} (h : Rl e D c l ph T) {rest : Nat} (hD : D rest) (hm : rest < 16777216) {k : Int} (hk : -20 ≤ k ∧ k ≤ 20)
    {S : List Nat} (hS : ∀ s ∈ S, s < 24 ∧ D (2 ^ s)) (hSl : S.length ≤ 1000) {a b : TAffine} (ha : F_impl_bitsOf a.Mask = some (pwI S)) (hb : F_spec_l1Set b.Mask = some (cI (S.map f))) (hab : b.Turn = a.Turn) :
    ∃ ph' T' l', F_spec_l21Sum_times (Tl21Sum.mk ph T) ((e rest : Nat) : Int) k b = some (Tl21Sum.mk ph' T') ∧ F_impl_polynomial_expand l k a (rest : Int) = some l' ∧ Rl e D c l' ph' T' := by
  let P : (Int × List TTerm) → List (Int × Int) → Prop := fun s t => Rl e D c t s.1 s.2
  have sh : ∀ {s : Nat}, s ∈ S → D (2 ^ s) ∧ 2 ^ s < 16777216 ∧ e (2 ^ s) = 2 ^ f s ∧ IntKind.u64.wrap ((f s : Nat) : Int) = ((f s : Nat) : Int) ∧ shlK .i64 1 ((f s : Nat) : Int) = ((2 ^ f s : Nat) : Int) := fun {s} hs => by
    obtain ⟨h1, h2⟩ := hS s hs
    have := E.le s
    exact ⟨h2, two24 h1, E.two s h2, wrapU (by omega), (ps_shl1 (by omega)).1⟩
  -- a mask with one bit more
  have orr : ∀ {m s : Nat}, s ∈ S → D m → m < 16777216 → D (m ||| 2 ^ s) ∧ m ||| 2 ^ s < 16777216 ∧ bits .or .i64 (m : Int) ((2 ^ s : Nat) : Int) = ((m ||| 2 ^ s : Nat) : Int) ∧ bits .or .i64 ((e m : Nat) : Int) ((2 ^ f s : Nat) : Int) = ((e (m ||| 2 ^ s) : Nat) : Int) := fun {m s} hs h1 h2 => by
    obtain ⟨g1, g2, g3, _, _⟩ := sh hs
    obtain ⟨o1, o2⟩ := E.or m (2 ^ s) h1 g1
    have b1 := E.bd m h2
    have b2 := E.bd (2 ^ s) g2
    rw [g3] at b2 o2
    refine ⟨o1, or24 h2 g2, or_i (by omega) (by omega), ?_⟩
    rw [or_i (by omega) (by omega), o2]
  have chN : ∀ {α : Type} (a : Nat) (x : Option α), chk ((0 : Int) ≤ (a : Int)) x = x := fun a x => chk_t (by omega)
  have core : ∀ (k : Int) (ph : Int) (T : List TTerm) (l : List (Int × Int)), (-20 ≤ k ∧ k ≤ 20) → Rl e D c l ph T →
      ∃ s' t', forN (F_spec_l21Sum_times_l1 (cI (S.map f)) ((e rest : Nat) : Int) k) S.length 0 (ph, T) = some s' ∧ forN (F_impl_polynomial_expand_l1 (pwI S) (rest : Int) k) S.length 0 l = some t' ∧ P s' t' := fun k ph T l hk h => by
    refine forN2 P S.length (fun i hi s t hst => ?_) S.length 0 (by omega) (ph, T) l h
    have gi := List.getElem?_eq_getElem hi
    have mi : S[i] ∈ S := List.getElem_mem hi
    generalize S[i] = x at gi mi
    obtain ⟨_, _, _, x4, x5⟩ := sh mi
    obtain ⟨o1, o2, o3, o4⟩ := orr mi hD hm
    obtain ⟨ph1, T1, l1, a1, a2, a3⟩ := rl_add E hst o1 o2 (k := k) (by omega)
    -- the second level
    have lev2 : ∃ s' t', forN (F_spec_l21Sum_times_l2 i (cI (S.map f)) ((f x : Nat) : Int) ((e rest : Nat) : Int) k) i 0 (ph1, T1) = some s' ∧ forN (F_impl_polynomial_expand_l2 i (pwI S) (rest : Int) ((2 ^ x : Nat) : Int) k) i 0 l1 = some t' ∧ P s' t' := by
      refine forN2 P i (fun i1 hi1 s t hst => ?_) i 0 (by omega) (ph1, T1) l1 a3
      have gi1 := List.getElem?_eq_getElem (show i1 < S.length by omega)
      have mi1 : S[i1] ∈ S := List.getElem_mem _
      generalize S[i1] = x1 at gi1 mi1
      obtain ⟨_, _, _, y4, y5⟩ := sh mi1
      obtain ⟨p1, p2, p3, p4⟩ := orr mi1 o1 o2
      obtain ⟨ph2, T2, l2, b1, b2, b3⟩ := rl_add E hst p1 p2 (k := -2 * k) (by omega)
      have lev3 : ∃ s' t', forN (F_spec_l21Sum_times_l3 i1 (cI (S.map f)) ((f x : Nat) : Int) ((f x1 : Nat) : Int) ((e rest : Nat) : Int) k) i1 0 (ph2, T2) = some s' ∧ forN (F_impl_polynomial_expand_l3 i1 (pwI S) (rest : Int) ((2 ^ x : Nat) : Int) ((2 ^ x1 : Nat) : Int) k) i1 0 l2 = some t' ∧ P s' t' := by
        refine forN2 P i1 (fun i2 hi2 s t hst => ?_) i1 0 (by omega) (ph2, T2) l2 b3
        have gi2 := List.getElem?_eq_getElem (show i2 < S.length by omega)
        have mi2 : S[i2] ∈ S := List.getElem_mem _
        generalize S[i2] = x2 at gi2 mi2
        obtain ⟨_, _, _, z4, z5⟩ := sh mi2
        obtain ⟨q1, q2, q3, q4⟩ := orr mi2 p1 p2
        obtain ⟨ph3, T3, l3, c1, c2, c3⟩ := rl_add E hst q1 q2 (k := 4 * k) (by omega)
        refine ⟨(ph3, T3), l3, ?_, ?_, c3⟩
        · unfold F_spec_l21Sum_times_l3
          obtain ⟨s1, s2⟩ := s
          simp only
          rw [cf_take hi2 gi2, Option.bind_some, x4, y4, z4, x5, y5, z5, chN, chN, chN, o4, p4, q4, ps_w (by omega), c1]
          rfl
        · unfold F_impl_polynomial_expand_l3
          rw [pw_take hi2 gi2, Option.bind_some, o3, p3, q3, ps_w (by omega), c2]
          rfl
      obtain ⟨⟨s3, T3⟩, t3, d1, d2, d3⟩ := lev3
      refine ⟨(s3, T3), t3, ?_, ?_, d3⟩
      · unfold F_spec_l21Sum_times_l2
        obtain ⟨s1, s2⟩ := s
        simp only
        rw [cf_take hi1 gi1, Option.bind_some, x4, y4, x5, y5, chN, chN, o4, p4, ps_w (a := -2 * k) (by omega), b1, Option.bind_some, chk_t (by rw [cI_len, List.length_map]; omega), chk_t (by omega), d1]
        rfl
      · unfold F_impl_polynomial_expand_l2
        rw [pw_take hi1 gi1, Option.bind_some, o3, p3, ps_w (a := -2 * k) (by omega), b2, Option.bind_some, chk_t (by unfold pwI; rw [List.length_map]; omega), chk_t (by omega), d2]
        rfl
    obtain ⟨⟨s3, T3⟩, t3, d1, d2, d3⟩ := lev2
    refine ⟨(s3, T3), t3, ?_, ?_, d3⟩
    · unfold F_spec_l21Sum_times_l1
      obtain ⟨s1, s2⟩ := s
      simp only
      rw [cf_at gi, Option.bind_some, x4, x5, chN, o4, a1, Option.bind_some, chk_t (by rw [cI_len, List.length_map]; omega), chk_t (by omega), d1]
      rfl
    · unfold F_impl_polynomial_expand_l1
      rw [pw_at gi, Option.bind_some, o3, a2, Option.bind_some, chk_t (by unfold pwI; rw [List.length_map]; omega), chk_t (by omega), d2]
      rfl
  have fin_ : ∀ (k : Int) (ph : Int) (T : List TTerm) (l : List (Int × Int)), (-20 ≤ k ∧ k ≤ 20) → Rl e D c l ph T →
      ∃ ph' T' l', ((F_spec_l1Set b.Mask).bind fun r_ => chk (r_.length ≤ 9223372036854775807) <| (forN (F_spec_l21Sum_times_l1 r_ ((e rest : Nat) : Int) k) r_.length 0 (ph, T)).bind fun (phase1, terms1) => some ((Tl21Sum.mk phase1 terms1))) = some (Tl21Sum.mk ph' T') ∧
        ((F_impl_bitsOf a.Mask).bind fun r_ => chk (r_.length ≤ 9223372036854775807) <| (forN (F_impl_polynomial_expand_l1 r_ (rest : Int) k) r_.length 0 l).bind fun m3 => some (m3)) = some l' ∧ Rl e D c l' ph' T' := fun k ph T l hk h => by
    obtain ⟨⟨s', T'⟩, t', h1, h2, h3⟩ := core k ph T l hk h
    refine ⟨s', T', t', ?_, ?_, h3⟩
    · rw [hb, Option.bind_some, cI_len, List.length_map, chk_t (by omega), h1]; rfl
    · rw [ha, Option.bind_some, show (pwI S).length = S.length by simp [pwI], chk_t (by omega), h2]; rfl
  unfold F_spec_l21Sum_times F_impl_polynomial_expand
  rw [hab]
  cases hturn : (a.Turn == 1) with
  | true =>
    obtain ⟨ph1, T1, l1, a1, a2, a3⟩ := rl_add E h hD hm (k := k) (by omega)
    obtain ⟨ph', T', l', h1, h2, h3⟩ := fin_ (-k) ph1 T1 l1 (by omega) a3
    refine ⟨ph', T', l', ?_, ?_, h3⟩
    · simp only [cond_true, a1, Option.bind_some, ps_w (a := -k) (by omega)]; exact h1
    · simp only [cond_true, a2, Option.bind_some, ps_w (a := -k) (by omega)]; exact h2
  | false =>
    obtain ⟨ph', T', l', h1, h2, h3⟩ := fin_ k ph T l hk h
    refine ⟨ph', T', l', ?_, ?_, h3⟩
    · simp only [cond_false, Option.bind_some]; exact h1
    · simp only [cond_false, Option.bind_some]; exact h2

theorem em_dr (v : Nat) : EM (dr v) (fun m => m.testBit v = false) (fun k => if k < v then k else k - 1) := by
  refine ⟨fun a b ha hb h => dr_inj ha hb h, fun a ha => Nat.lt_of_le_of_lt (dr_le v a) ha, fun a b ha hb => ⟨?_, dr_or v a b⟩, fun k hk => ?_, fun k => ?_⟩
  · rw [Nat.testBit_or, ha, hb]; rfl
  · refine dr_two v k fun e => ?_
    subst e
    rw [Nat.testBit_two_pow] at hk; simp at hk
  · show (if k < v then k else k - 1) ≤ k
    split <;> omega
theorem setW_mem32 {x k : Nat} (h : x < 16777216) : k ∈ setW x 32 ↔ x.testBit k = true := by
  unfold setW
  rw [List.mem_filter, List.mem_range]
  refine ⟨fun h => h.2, fun h' => ⟨?_, h'⟩⟩
  rcases Nat.lt_or_ge k 32 with h1 | h1
  · exact h1
  · rw [Nat.testBit_lt_two_pow (Nat.lt_of_lt_of_le h (Nat.le_trans (by decide) (Nat.pow_le_pow_right (n := 2) (i := 32) (by decide) h1)))] at h'
    cases h'
theorem setW_lt24 {x k : Nat} (h : x < 16777216) (hk : k ∈ setW x 32) : k < 24 := by
  have := (setW_mem32 h).1 hk
  rcases Nat.lt_or_ge k 24 with h1 | h1
  · exact h1
  · rw [Nat.testBit_lt_two_pow (Nat.lt_of_lt_of_le h (Nat.pow_le_pow_right (n := 2) (i := 24) (by decide) h1))] at this
    cases this
theorem setW_sorted (x n : Nat) : (setW x n).Pairwise (· < ·) := by
  unfold setW
  exact List.pairwise_lt_range.sublist List.filter_sublist
theorem setW_len (x : Nat) : (setW x 32).length ≤ 32 := by
  unfold setW
  have := List.length_filter_le (fun k => x.testBit k) (List.range 32)
  rw [List.length_range] at this
  exact this
theorem setW_dr {v x : Nat} (hx : x < 16777216) (hv : x.testBit v = false) : setW (dr v x) 32 = (setW x 32).map fun k => if k < v then k else k - 1 := by
  have hd := dr_le v x
  have hne : ∀ k ∈ setW x 32, k ≠ v := fun k hk e => by
    have := (setW_mem32 hx).1 hk
    rw [e, hv] at this; cases this
  have hs : ((setW x 32).map fun k => if k < v then k else k - 1).Pairwise (· < ·) := by
    rw [List.pairwise_map]
    refine (setW_sorted x 32).imp_of_mem ?_
    intro a b ha hb hlt
    have := hne a ha; have := hne b hb
    split <;> split <;> omega
  have nd : ∀ {l : List Nat}, l.Pairwise (· < ·) → l.Nodup := fun {l} h => h.imp (fun {a b} hlt e => by omega)
  refine List.Perm.eq_of_pairwise (le := fun a b : Nat => a < b) (fun a b _ _ h1 h2 => by omega) (setW_sorted _ _) hs ((List.perm_ext_iff_of_nodup (nd (setW_sorted _ _)) (nd hs)).2 fun j => ?_)
  rw [setW_mem32 (by omega), dr_bit, List.mem_map]
  constructor
  · intro h
    by_cases hj : j < v
    · rw [if_pos hj] at h
      exact ⟨j, (setW_mem32 hx).2 h, if_pos hj⟩
    · rw [if_neg hj] at h
      exact ⟨j + 1, (setW_mem32 hx).2 h, by rw [if_neg (by omega)]; rfl⟩
  · rintro ⟨k, hk, rfl⟩
    have h1 := (setW_mem32 hx).1 hk
    have h2 := hne k hk
    by_cases hkv : k < v
    · rw [if_pos hkv, if_pos hkv]; exact h1
    · rw [if_neg hkv, if_neg (by omega), show k - 1 + 1 = k by omega]; exact h1
theorem ps_bit1 {w m : Nat} (hw : w < 9223372036854775808) (hm : m ≤ 64) : (bits .and .i64 (shrK .i64 (w : Int) (m : Int)) 1 == 1) = w.testBit m := by
  have hd : w / 2 ^ m < 9223372036854775808 := Nat.lt_of_le_of_lt (Nat.div_le_self _ _) hw
  rw [shr_i w m hm, show (1 : Int) = ((1 : Nat) : Int) from rfl, and_i hd (by decide), Nat.and_one_is_mod, Nat.testBit_eq_decide_div_mod_eq, Bool.eq_iff_iff]
  simp only [beq_iff_eq, decide_eq_true_eq]
  omega
theorem shr_bit0 {w m : Nat} (hw : w < 9223372036854775808) (hm : m ≤ 64) : (bits .and .i64 (shrK .i64 (w : Int) (m : Int)) 1 == 0) = !w.testBit m := by
  have hd : w / 2 ^ m < 9223372036854775808 := Nat.lt_of_le_of_lt (Nat.div_le_self _ _) hw
  rw [shr_i w m hm, show (1 : Int) = ((1 : Nat) : Int) from rfl, and_i hd (by decide), Nat.and_one_is_mod, Nat.testBit_eq_decide_div_mod_eq, Bool.eq_iff_iff]
  simp only [beq_iff_eq, Bool.not_eq_true', decide_eq_false_iff_not]
  omega
theorem mem_termsOf {l : List (Int × Int)} {t : TTerm} : t ∈ termsOf l ↔ (t.Mask, t.Coef) ∈ l ∧ 0 < t.Mask ∧ 0 < t.Coef := by
  unfold termsOf
  rw [(List.mergeSort_perm _ _).mem_iff, List.mem_filterMap]
  constructor
  · rintro ⟨q, hq, he⟩
    unfold tmF at he
    split at he
    · rename_i hp
      cases he
      exact ⟨hq, hp.1, hp.2⟩
    · cases he
  · rintro ⟨hq, h1, h2⟩
    exact ⟨_, hq, by unfold tmF; rw [if_pos ⟨h1, h2⟩]⟩
theorem wh_map {α β ρ : Type} {F : (List β × Int) → Option (Ex (List β × Int) ρ)} (L : List α) (y : α → β) (hn : L.length ≤ 1099511627776) (hs : ∀ (i : Nat) (x : α) (O : List β), L[i]? = some x → O.length = i → F (O, (i : Int)) = some (.nx (O ++ [y x], ((i + 1 : Nat) : Int))))
    (he : ∀ O, F (O, (L.length : Int)) = some (.br (O, (L.length : Int)))) : whX F fuel ([], 0) = some (.inl (L.map y, (L.length : Int))) := by
  have key : ∀ (d i q : Nat), i + d = L.length → d < q → whX F q ((L.take i).map y, (i : Int)) = some (.inl (L.map y, (L.length : Int))) := by
    intro d
    induction d with
    | zero =>
      intro i q hi hq
      obtain ⟨q, rfl⟩ : ∃ q', q = q' + 1 := ⟨q - 1, by omega⟩
      have : i = L.length := by omega
      subst this
      simp only [whX, List.take_length, he, Option.bind_some]
    | succ d ih =>
      intro i q hi hq
      obtain ⟨q, rfl⟩ : ∃ q', q = q' + 1 := ⟨q - 1, by omega⟩
      have hL := List.getElem?_eq_getElem (show i < L.length by omega)
      have h1 := hs i L[i] ((L.take i).map y) hL (by rw [List.length_map, List.length_take]; omega)
      simp only [whX, h1, Option.bind_some]
      rw [← ih (i + 1) q (by omega) (by omega)]
      have ht : L.take (i + 1) = L.take i ++ [L[i]] := by
        rw [List.take_add_one, hL]; rfl
      rw [ht, List.map_append]
      rfl
  have := key L.length 0 fuel (by omega) (fuelB (by omega))
  simpa using this
theorem rl_init {e : Nat → Nat} {D : Nat → Prop} {f : Nat → Nat} (E : EM e D f) (h0 : D 0) (e0 : e 0 = 0) {ph : Int} (hp : 0 ≤ ph ∧ ph ≤ 7) : Rl e D 0 (mput ([] : List (Int × Int)) 0 ph) ph [] := by
  have hm : mput ([] : List (Int × Int)) 0 ph = [(0, ph)] := rfl
  refine ⟨hp, ⟨List.Pairwise.nil, fun t ht => by cases ht⟩, ⟨by rw [hm]; simp, fun q hq => ?_⟩, fun j hj => ?_, fun q hq => ?_⟩
  · rw [hm] at hq
    have := List.mem_singleton.1 hq
    subst this
    simp only; omega
  · rw [mgt_put]
    unfold sf
    by_cases hj0 : j = 0
    · subst hj0
      rw [if_pos e0, if_pos rfl, if_pos (show ((0 : Nat) : Int) = 0 from rfl)]
      omega
    · rw [if_neg (fun he => hj0 (E.inj j 0 hj h0 (by rw [he, e0]))), if_neg (show ¬ (j : Int) = 0 by omega), if_neg hj0]
      rfl
  · rw [hm] at hq
    have := List.mem_singleton.1 hq
    subst this
    exact h0
/-- The terms with the variable dropped. -/
theorem dr_terms {v : Nat} {c : Int} {l : List (Int × Int)} {ph : Int} {T : List TTerm} (h : Rl (dr v) (fun m => m.testBit v = false) c l ph T) : (termsOf l).map (fun t => TTerm.mk ((dr v t.Mask.toNat : Nat) : Int) t.Coef) = T ∧ (mgt l 0 0 + c) % 8 = ph := by
  obtain ⟨_, hT, hcof⟩ := terms_ok h.mp
  have hD : ∀ t ∈ termsOf l, t.Mask.toNat.testBit v = false := fun t ht => h.key _ (mem_termsOf.1 ht).1
  have hne : ∀ {a b : Nat}, a.testBit v = false → b.testBit v = false → dr v a = dr v b → a = b := fun ha hb he => dr_inj ha hb he
  have d0 := dr_zero v
  constructor
  · refine tm_ext ⟨?_, fun t ht => ?_⟩ h.tm fun j hj => ?_
    · rw [List.pairwise_map]
      refine hT.srt.imp_of_mem ?_
      intro a b ha hb hlt
      have r1 := hT.rng a ha; have r2 := hT.rng b hb
      have := dr_mono (hD a ha) (hD b hb) (show a.Mask.toNat < b.Mask.toNat by omega)
      simp only; omega
    · obtain ⟨t', ht', rfl⟩ := List.mem_map.1 ht
      have r1 := hT.rng t' ht'
      have r2 := dr_le v t'.Mask.toNat
      have r3 : dr v t'.Mask.toNat ≠ 0 := fun e => by
        have := hne (hD t' ht') (Nat.zero_testBit v) (e.trans d0.symm)
        omega
      simp only; omega
    · have hj0 : ur v j ≠ 0 := fun e => by
        have := dr_ur v j
        rw [e, d0] at this; omega
      have e1 : cofT T j = cofT (termsOf l) (ur v j) := by
        have h1 := h.eq (ur v j) (ur_v v j)
        have h2 := mgt_rng h.mp ((ur v j : Nat) : Int)
        rw [dr_ur, if_neg hj0] at h1
        unfold sf at h1
        rw [if_neg (by omega)] at h1
        rw [hcof _ (by omega), h1]
        omega
      rw [e1]
      have hT' : TmOk ((termsOf l).map (fun t => TTerm.mk ((dr v t.Mask.toNat : Nat) : Int) t.Coef)) := by
        refine ⟨?_, fun t ht => ?_⟩
        · rw [List.pairwise_map]
          refine hT.srt.imp_of_mem ?_
          intro a b ha hb hlt
          have r1 := hT.rng a ha; have r2 := hT.rng b hb
          have := dr_mono (hD a ha) (hD b hb) (show a.Mask.toNat < b.Mask.toNat by omega)
          simp only; omega
        · obtain ⟨t', ht', rfl⟩ := List.mem_map.1 ht
          have r1 := hT.rng t' ht'
          have r2 := dr_le v t'.Mask.toNat
          have r3 : dr v t'.Mask.toNat ≠ 0 := fun e => by
            have := hne (hD t' ht') (Nat.zero_testBit v) (e.trans d0.symm)
            omega
          simp only; omega
      rcases cof_cases hT (ur v j) with ⟨t, ht, h1, h2⟩ | ⟨h1, h2⟩
      · rw [h2]
        refine cof_mem (t := TTerm.mk ((dr v t.Mask.toNat : Nat) : Int) t.Coef) hT' (List.mem_map.2 ⟨t, ht, rfl⟩) ?_
        simp only
        rw [h1, Int.toNat_natCast, dr_ur]
      · rw [h1]
        refine cof_no fun t ht e => ?_
        obtain ⟨t', ht', rfl⟩ := List.mem_map.1 ht
        simp only at e
        have r1 := hT.rng t' ht'
        have := hne (hD t' ht') (ur_v v j) (by rw [dr_ur]; omega)
        exact h2 t' ht' (by omega)
  · have := h.eq 0 (Nat.zero_testBit v)
    rw [d0, if_pos rfl] at this
    exact this.symm

theorem a_nat {x : Int} {n : Nat} (h : 0 ≤ x ∧ x ≤ (n : Int) - 1) : ∃ m : Nat, x = (m : Int) ∧ m < n := ⟨x.toNat, by omega, by omega⟩
theorem xor_bit {m v : Nat} (h : m.testBit v = true) : (m ^^^ 2 ^ v).testBit v = false := by
  rw [Nat.testBit_xor, h, Nat.testBit_two_pow]; simp
theorem xor24 {a b : Nat} (ha : a < 16777216) (hb : b < 16777216) : a ^^^ b < 16777216 := Nat.xor_lt_two_pow (n := 24) ha hb
theorem dr_xv {m v : Nat} (h : m.testBit v = true) : dr v m = dr v (m ^^^ 2 ^ v) := by
  apply Nat.eq_of_testBit_eq
  intro j
  rw [dr_bit, dr_bit, Nat.testBit_xor, Nat.testBit_xor, Nat.testBit_two_pow, Nat.testBit_two_pow]
  by_cases h1 : j < v
  · rw [if_pos h1, if_pos h1, decide_eq_false (by omega), Bool.xor_false]
  · rw [if_neg h1, if_neg h1, decide_eq_false (by omega), Bool.xor_false]
/-- What a value becomes. -/
def outF (v b : Nat) (bt : Int) (x : TAffine) : TAffine :=
  if x.Mask.toNat.testBit v = true then TAffine.mk ((x.Mask.toNat ^^^ 2 ^ v ^^^ b : Nat) : Int) (bits .xor .i64 x.Turn bt) else x
def outD (v : Nat) (x : TAffine) : TAffine := TAffine.mk ((dr v x.Mask.toNat : Nat) : Int) x.Turn
theorem sub_both {p : TPathSum} {N : Nat} (hN : N ≤ 24) (hp : PsOk p N) (hlen : p.Terms.length ≤ 1099511627776) {v b : Nat} (hv : v < N) (hb : b < 2 ^ N) (hbv : b.testBit v = false) {bt : Int} :
    ∃ r, F_spec_l21Replace p (v : Int) (TAffine.mk (b : Int) bt) = some r ∧ F_impl_PathSum_substituted p (v : Int) (TAffine.mk (b : Int) bt) = some r ∧ r.Terms.length ≤ 16777216 ∧ r.Out.length ≤ 5 ∧ r.Vars = IntKind.i64.wrap (p.Vars - 1) := by
  obtain ⟨P1, P2, P3⟩ := ps_pow hN
  have hb24 : b < 16777216 := by omega
  have hin := hp.ins; have hva := hp.vars; have hnu := hp.num
  have E := em_dr v
  have hu : IntKind.u64.wrap (v : Int) = (v : Int) := wrapU (by omega)
  have hsh := (ps_shl1 (v := v) (by omega)).1
  have h2v : 2 ^ v < 16777216 := two24 (by omega)
  have hdb := dr_le v b
  have hS : ∀ s ∈ setW b 32, s < 24 ∧ (2 ^ s).testBit v = false := fun s hs => ⟨setW_lt24 hb24 hs, by
    rw [Nat.testBit_two_pow]
    refine decide_eq_false fun e => ?_
    have := (setW_mem32 hb24).1 hs
    rw [e, hbv] at this; cases this⟩
  -- the terms
  have loop : ∃ s' t', forN (F_spec_l21Replace_l1 p (v : Int) (TAffine.mk (b : Int) bt)) p.Terms.length 0 (p.Phase, []) = some s' ∧ forN (F_impl_PathSum_substituted_l1 p (v : Int) (TAffine.mk (b : Int) bt)) p.Terms.length 0 (mput ([] : List (Int × Int)) 0 p.Phase) = some t' ∧
      (fun (s : Int × List TTerm) t => Rl (dr v) (fun m => m.testBit v = false) 0 t s.1 s.2) s' t' := by
    refine forN2 _ p.Terms.length (fun i hi s t hst => ?_) p.Terms.length 0 (by omega) _ _ (rl_init E (Nat.zero_testBit v) (dr_zero v) hp.phase)
    obtain ⟨s1, s2⟩ := s
    have gx := List.getElem?_eq_getElem hi
    generalize p.Terms[i] = x at gx
    obtain ⟨xm, xc1, xc2, _⟩ := hp.terms i x gx
    obtain ⟨m, hm, hm2⟩ := a_nat (x := x.Mask) (n := 2 ^ N) (by omega)
    have hm24 : m < 16777216 := by omega
    unfold F_spec_l21Replace_l1 F_impl_PathSum_substituted_l1
    simp only
    rw [getI_nat, gx, Option.bind_some, Option.bind_some, hu, chk_t (by omega), chk_t (by omega), hm, shr_bit0 (by omega) (by omega), ps_bit1 (by omega) (by omega), drop_s (by omega) (by omega), drop_s (m := b) (by omega) (by omega)]
    cases hbit : m.testBit v with
    | false =>
      obtain ⟨ph1, T1, l1, a1, a2, a3⟩ := rl_add E hst hbit hm24 (k := x.Coef) (by omega)
      refine ⟨(ph1, T1), l1, ?_, ?_, a3⟩
      · simp only [Bool.not_false, cond_true, Option.bind_some, a1]
      · simp only [cond_false, a2, Option.bind_some]
    | true =>
      have hx24 : m ^^^ 2 ^ v < 16777216 := xor24 hm24 h2v
      obtain ⟨ph1, T1, l1, a1, a2, a3⟩ := rl_times E hst (xor_bit hbit) hx24 (k := x.Coef) (by omega) (S := setW b 32) (a := TAffine.mk (b : Int) bt) (b := TAffine.mk ((dr v b : Nat) : Int) bt) hS (Nat.le_trans (setW_len b) (by decide)) (bitsOf_eq (by omega)) (by rw [setW_eq (by omega), setW_dr hb24 hbv]) rfl
      refine ⟨(ph1, T1), l1, ?_, ?_, a3⟩
      · simp only [Bool.not_true, cond_false, Option.bind_some, dr_xv hbit, a1]
      · rw [cond_true, chk_t (by omega), hsh, xor_i (by omega) (by omega), a2]
        rfl
  obtain ⟨⟨ph, T⟩, l, f1, f2, f3⟩ := loop
  simp only at f3
  obtain ⟨t1, t2, _⟩ := terms_ok f3.mp
  obtain ⟨e1, e2⟩ := dr_terms f3
  have e2 : mgt l 0 0 = ph := by have := mgt_rng f3.mp 0; omega
  have hTl := f3.tm.len
  have htl := t2.len
  have hout : p.Out.length ≤ 5 := by have := hp.out; omega
  have on : ∀ x ∈ p.Out, ∃ m : Nat, x.Mask = (m : Int) ∧ m < 16777216 := fun x hx => by
    obtain ⟨m, h1, h2⟩ := a_nat (hp.outs x hx).1
    exact ⟨m, h1, by omega⟩
  -- the values
  have w1 : whX (F_impl_PathSum_substituted_l2 p (v : Int) (TAffine.mk (b : Int) bt)) fuel ([], 0) = some (.inl (p.Out.map (outF v b bt), (p.Out.length : Int))) := by
    refine wh_map p.Out (outF v b bt) (by omega) (fun i x O hx hO => ?_) fun O => ?_
    · have hi := (List.getElem?_eq_some_iff.1 hx).1
      obtain ⟨m, h1, h2⟩ := on x (List.mem_of_getElem? hx)
      unfold F_impl_PathSum_substituted_l2
      simp only
      rw [decide_eq_true (show (i : Int) < (p.Out.length : Int) by omega), cond_true, getI_nat, hx, Option.bind_some, chk_t (by omega), h1, ps_bit1 (by omega) (by omega), ps_w (a := (i : Int) + 1) (by omega)]
      unfold outF
      rw [h1, Int.toNat_natCast]
      cases hbit : m.testBit v with
      | false =>
        simp only [cond_false, Option.bind_some, Bool.false_eq_true, if_false]
        rw [chk_t (by omega)]
        cases x; simp only at h1; subst h1; rfl
      | true =>
        rw [cond_true, chk_t (by omega), hsh, xor_i (by omega) (by omega), xor_i (by have := xor24 h2 h2v; omega) (by omega)]
        simp only [Option.bind_some, if_true]
        rw [chk_t (by omega)]
        rfl
    · unfold F_impl_PathSum_substituted_l2
      simp only
      rw [decide_eq_false (by omega), cond_false]
  have on2 : ∀ x ∈ p.Out.map (outF v b bt), ∃ m : Nat, x.Mask = (m : Int) ∧ m < 16777216 := fun x hx => by
    obtain ⟨y, hy, rfl⟩ := List.mem_map.1 hx
    obtain ⟨m, h1, h2⟩ := on y hy
    unfold outF
    split
    · exact ⟨_, rfl, by rw [h1, Int.toNat_natCast]; exact xor24 (xor24 h2 h2v) hb24⟩
    · exact ⟨m, h1, h2⟩
  have w2 : whX (F_spec_l21Replace_l2 p (v : Int) (TAffine.mk (b : Int) bt)) fuel ([], 0) = some (.inl (p.Out.map fun x => outD v (outF v b bt x), (p.Out.length : Int))) := by
    refine wh_map p.Out (fun x => outD v (outF v b bt x)) (by omega) (fun i x O hx hO => ?_) fun O => ?_
    · have hi := (List.getElem?_eq_some_iff.1 hx).1
      obtain ⟨m, h1, h2⟩ := on x (List.mem_of_getElem? hx)
      unfold F_spec_l21Replace_l2
      simp only
      rw [decide_eq_true (show (i : Int) < (p.Out.length : Int) by omega), cond_true, getI_nat, hx, Option.bind_some, hu, chk_t (by omega), h1, ps_bit1 (by omega) (by omega), ps_w (a := (i : Int) + 1) (by omega)]
      unfold outF outD
      rw [h1, Int.toNat_natCast]
      cases hbit : m.testBit v with
      | false =>
        simp only [cond_false, Option.bind_some, Bool.false_eq_true, if_false]
        rw [drop_s (by omega) (by omega), Option.bind_some, chk_t (by omega), h1, Int.toNat_natCast]
        rfl
      | true =>
        rw [cond_true, chk_t (by omega), hsh, xor_i (by omega) (by omega), xor_i (by have := xor24 h2 h2v; omega) (by omega)]
        simp only [Option.bind_some, if_true]
        rw [drop_s (by have := xor24 (xor24 h2 h2v) hb24; omega) (by omega), Option.bind_some, chk_t (by omega), Int.toNat_natCast]
        rfl
    · unfold F_spec_l21Replace_l2
      simp only
      rw [decide_eq_false (by omega), cond_false]
  have w3 : ∀ (q : TPathSum), q.Terms = termsOf l → whX (F_impl_PathSum_without_l1 q (v : Int)) fuel ([], 0) = some (.inl ((termsOf l).map (fun t => TTerm.mk ((dr v t.Mask.toNat : Nat) : Int) t.Coef), ((termsOf l).length : Int))) := fun q hq => by
    refine wh_map (termsOf l) _ (by omega) (fun i x O hx hO => ?_) fun O => ?_
    · have hi := (List.getElem?_eq_some_iff.1 hx).1
      have hr := t2.rng x (List.mem_of_getElem? hx)
      unfold F_impl_PathSum_without_l1
      simp only
      rw [hq, decide_eq_true (show (i : Int) < ((termsOf l).length : Int) by omega), cond_true, getI_nat, hx, Option.bind_some, show x.Mask = (x.Mask.toNat : Int) by omega, drop_i (by omega) (by omega), Option.bind_some, chk_t (by omega), ps_w (a := (i : Int) + 1) (by omega), Int.toNat_natCast]
      rfl
    · unfold F_impl_PathSum_without_l1
      simp only
      rw [hq, decide_eq_false (by omega), cond_false]
  have w4 : ∀ (q : TPathSum), q.Out = p.Out.map (outF v b bt) → whX (F_impl_PathSum_without_l2 q (v : Int)) fuel ([], 0) = some (.inl ((p.Out.map (outF v b bt)).map (outD v), ((p.Out.map (outF v b bt)).length : Int))) := fun q hq => by
    refine wh_map (p.Out.map (outF v b bt)) (outD v) (by rw [List.length_map]; omega) (fun i x O hx hO => ?_) fun O => ?_
    · have hi := (List.getElem?_eq_some_iff.1 hx).1
      have hl2 : (p.Out.map (outF v b bt)).length = p.Out.length := List.length_map ..
      obtain ⟨m, h1, h2⟩ := on2 x (List.mem_of_getElem? hx)
      unfold F_impl_PathSum_without_l2
      simp only
      rw [hq, decide_eq_true (show (i : Int) < ((p.Out.map (outF v b bt)).length : Int) by omega), cond_true, getI_nat, hx, Option.bind_some, h1, drop_i (by omega) (by omega), Option.bind_some, chk_t (by omega), ps_w (a := (i : Int) + 1) (by omega)]
      unfold outD
      rw [h1, Int.toNat_natCast]
      rfl
    · unfold F_impl_PathSum_without_l2
      simp only
      rw [hq, decide_eq_false (by omega), cond_false]
  refine ⟨TPathSum.mk p.Ins (IntKind.i64.wrap (p.Vars - 1)) p.Root ph T (p.Out.map fun x => outD v (outF v b bt x)), ?_, ?_, hTl, by simp only; rw [List.length_map]; exact hout, rfl⟩
  · unfold F_spec_l21Replace
    rw [chk_t (by omega), f1]
    simp only [Option.bind_some]
    rw [w2]
    rfl
  · unfold F_impl_PathSum_substituted
    rw [chk_t (by omega), f2]
    simp only [Option.bind_some]
    rw [t1, Option.bind_some, w1]
    simp only [orR, Option.bind_some]
    unfold F_impl_PathSum_without
    rw [w3 _ rfl]
    simp only [orR, Option.bind_some]
    rw [w4 _ rfl]
    simp only [orR, Option.bind_some]
    rw [e1, e2, List.map_map]
    rfl

theorem tz_tab : ∀ k : Fin 24, getI gl1 (shrK .u64 (IntKind.u64.wrap (((2 ^ k.val : Nat) : Int) * 285870213051353865)) 58) = some (k.val : Int) := by decide +kernel
theorem neg_u {m : Nat} (h0 : 1 ≤ m) (h : m < 18446744073709551616) : IntKind.u64.wrap (-(m : Int)) = ((18446744073709551616 - m : Nat) : Int) := by
  simp [IntKind.wrap, IntKind.signed, IntKind.bits]
  omega
theorem low_u {k q : Nat} (h : 2 ^ k * (2 * q + 1) < 4611686018427387904) : bits .and .u64 ((2 ^ k * (2 * q + 1) : Nat) : Int) (IntKind.u64.wrap (-((2 ^ k * (2 * q + 1) : Nat) : Int))) = ((2 ^ k : Nat) : Int) := by
  have hl := fun j => low_nat (k := k) (q := q) j
  have hp := Nat.two_pow_pos k
  have hm1 : 1 ≤ 2 ^ k * (2 * q + 1) := Nat.mul_pos hp (by omega)
  generalize 2 ^ k * (2 * q + 1) = m at h hl hm1 ⊢
  rw [neg_u hm1 (by omega), and_u (by omega) (by omega)]
  congr 1
  apply Nat.eq_of_testBit_eq
  intro j
  rw [Nat.testBit_and, show 18446744073709551616 - m = 2 ^ 64 - (m - 1 + 1) by omega, Nat.testBit_two_pow_sub_succ (by omega), ← hl j]
  by_cases hj : j < 64
  · simp [hj]
  · have : m.testBit j = false := Nat.testBit_lt_two_pow (Nat.lt_of_lt_of_le h (Nat.le_trans (by decide) (Nat.pow_le_pow_right (n := 2) (i := 64) (by decide) (by omega))))
    simp [this]
/-- What is not 0 has a lowest bit. -/
theorem low_ex : ∀ (m : Nat), m ≠ 0 → ∃ k q, m = 2 ^ k * (2 * q + 1)
  | m, h => by
    by_cases h2 : m % 2 = 1
    · exact ⟨0, m / 2, by omega⟩
    · obtain ⟨k, q, hk⟩ := low_ex (m / 2) (by omega)
      refine ⟨k + 1, q, ?_⟩
      rw [Nat.pow_succ, Nat.mul_right_comm, ← hk]
      omega
termination_by m => m
theorem tz_eq {m : Nat} (h0 : m ≠ 0) (h : m < 16777216) : ∃ k q : Nat, m = 2 ^ k * (2 * q + 1) ∧ k < 24 ∧ F_math_bits_TrailingZeros (m : Int) = some (k : Int) := by
  obtain ⟨k, q, hm⟩ := low_ex m h0
  have hk : k < 24 := by
    rcases Nat.lt_or_ge k 24 with h1 | h1
    · exact h1
    · have h2 : (2 : Nat) ^ 24 ≤ 2 ^ k := Nat.pow_le_pow_right (by decide) h1
      have h3 : 2 ^ k ≤ m := by rw [hm]; exact Nat.le_mul_of_pos_right _ (by omega)
      omega
  refine ⟨k, q, hm, hk, ?_⟩
  unfold F_math_bits_TrailingZeros F_math_bits_TrailingZeros64
  rw [show ((m : Int) == 0) = false by simpa using h0, cond_false, hm, low_u (by rw [← hm]; omega), tz_tab ⟨k, hk⟩]
  simp only [Option.bind_some]
  rw [ps_w (by omega)]
theorem tz_zero : F_math_bits_TrailingZeros 0 = some 64 := rfl
theorem low_test {k q : Nat} (j : Nat) : (2 ^ k * (2 * q + 1)).testBit j = true → k ≤ j := by
  intro h
  rw [Nat.testBit_two_pow_mul] at h
  simp at h
  exact h.1
theorem low_test' (k q : Nat) : (2 ^ k * (2 * q + 1)).testBit k = true := by
  rw [Nat.testBit_two_pow_mul]
  simp
theorem andNot_i {a b : Nat} (ha : a < 4611686018427387904) (hb : b < 4611686018427387904) : ∃ c : Nat, bits .andNot .i64 (a : Int) (b : Int) = (c : Int) ∧ c ≤ a ∧ ∀ j, c.testBit j = (a.testBit j && !b.testBit j) := by
  have e1 : BitVec.ofInt 64 (a : Int) = BitVec.ofNat 64 a := rfl
  have e2 : BitVec.ofInt 64 (b : Int) = BitVec.ofNat 64 b := rfl
  have key : ∀ j, (BitVec.ofNat 64 a &&& ~~~ BitVec.ofNat 64 b).toNat.testBit j = (a.testBit j && !b.testBit j) := fun j => by
    rw [BitVec.toNat_and, Nat.testBit_and, BitVec.toNat_not, BitVec.toNat_ofNat, BitVec.toNat_ofNat, Nat.mod_eq_of_lt (by omega), Nat.mod_eq_of_lt (by omega), show 2 ^ 64 - 1 - b = 2 ^ 64 - (b + 1) by omega, Nat.testBit_two_pow_sub_succ (by omega)]
    by_cases hj : j < 64
    · simp [hj]
    · have : a.testBit j = false := Nat.testBit_lt_two_pow (Nat.lt_of_lt_of_le ha (Nat.le_trans (by decide) (Nat.pow_le_pow_right (n := 2) (i := 64) (by decide) (by omega))))
      simp [this]
  have hle : (BitVec.ofNat 64 a &&& ~~~ BitVec.ofNat 64 b).toNat ≤ a := by
    rw [BitVec.toNat_and, BitVec.toNat_ofNat, Nat.mod_eq_of_lt (by omega)]
    exact Nat.and_le_left
  refine ⟨(BitVec.ofNat 64 a &&& ~~~ BitVec.ofNat 64 b).toNat, ?_, hle, key⟩
  show IntKind.i64.wrap ((BitVec.ofInt 64 (a : Int) &&& ~~~ BitVec.ofInt 64 (b : Int)).toNat : Int) = _
  rw [e1, e2]
  exact wrap_i64 ⟨by omega, by omega⟩

/-- A term of the variable, taken up by the program. -/
theorem ar_step {p : TPathSum} {N : Nat} (hN : N ≤ 24) (hp : PsOk p N) {y : Nat} (hy : y < N) {i : Nat} {x : TTerm} (hx : p.Terms[i]? = some x) {m : Nat} (hm : x.Mask = (m : Int)) (hm2 : m < 16777216) (c : Int) (z : Nat) (hz : z < 16777216) (a b : Bool) :
    F_impl_PathSum_around_l1 p (y : Int) i (c, (z : Int), a, b) = some (if m.testBit y = false then (c, (z : Int), a, b) else if m ^^^ 2 ^ y = 0 then (x.Coef, (z : Int), true, b) else if (setW (m ^^^ 2 ^ y) 32).length = 1 then (c, ((z ||| (m ^^^ 2 ^ y) : Nat) : Int), true, b && (x.Coef == 4)) else (c, (z : Int), true, false)) := by
  have h2y : 2 ^ y < 16777216 := two24 (by omega)
  have hr := xor24 hm2 h2y
  unfold F_impl_PathSum_around_l1
  simp only
  rw [getI_nat, hx, Option.bind_some, chk_t (by omega), hm, shr_bit0 (by omega) (by omega), chk_t (by omega), (ps_shl1 (v := y) (by omega)).1, xor_i (by omega) (by omega), bitsIn_eq (by omega), Option.bind_some]
  cases hb : m.testBit y with
  | false => rfl
  | true =>
    generalize hrr : m ^^^ 2 ^ y = r at hr ⊢
    simp only [Bool.not_true, cond_false, Bool.true_eq_false, if_false]
    by_cases h0 : r = 0
    · subst h0; rfl
    · rw [if_neg h0]
      have h1 := ps_size (x := r) (by omega) (by omega)
      generalize (setW r 32).length = u at h1 ⊢
      rw [show ((u : Int) == 0) = false by simp; omega, cond_false]
      by_cases hu : u = 1
      · subst hu
        rw [show (((1 : Nat) : Int) == 1) = true from rfl, cond_true, or_i (by omega) (by omega)]
        rfl
      · rw [show ((u : Int) == 1) = false by simp; omega, cond_false, if_neg hu]
        rfl
/-- The same by the reference. -/
theorem ru_step {p : TPathSum} {N : Nat} (hN : N ≤ 24) (hp : PsOk p N) {y : Nat} (hy : y < N) {i : Nat} {x : TTerm} (hx : p.Terms[i]? = some x) {m : Nat} (hm : x.Mask = (m : Int)) (hm2 : m < 16777216) (c : Int) (z : Nat) (hz : z < 16777216) :
    F_spec_l21Rule_l2 p (y : Int) i (c, (z : Int)) = some (if m.testBit y = false then .nx (c, (z : Int)) else if m ^^^ 2 ^ y = 0 then .nx (x.Coef, (z : Int)) else if (setW (m ^^^ 2 ^ y) 32).length = 1 ∧ x.Coef = 4 then .nx (c, ((z ||| (m ^^^ 2 ^ y) : Nat) : Int)) else .rt (0, 0, 0)) := by
  have h2y : 2 ^ y < 16777216 := two24 (by omega)
  have hr := xor24 hm2 h2y
  unfold F_spec_l21Rule_l2
  simp only
  rw [getI_nat, hx, Option.bind_some, wrapU (show y < 18446744073709551616 by omega), chk_t (by omega), hm, shr_bit0 (by omega) (by omega), chk_t (by omega), (ps_shl1 (v := y) (by omega)).1, xor_i (by omega) (by omega), setW_eq (by omega), Option.bind_some, cI_len]
  cases hb : m.testBit y with
  | false => rfl
  | true =>
    generalize hrr : m ^^^ 2 ^ y = r at hr ⊢
    simp only [Bool.not_true, cond_false, Bool.true_eq_false, if_false]
    by_cases h0 : r = 0
    · subst h0; rfl
    · rw [if_neg h0, show ((r : Int) == 0) = false by simpa using h0, cond_false]
      generalize (setW r 32).length = u
      by_cases hu : u = 1 ∧ x.Coef = 4
      · rw [if_pos hu, hu.1, hu.2, show ((((1 : Nat) : Int) == 1) && ((4 : Int) == 4)) = true from rfl, cond_true, or_i (by omega) (by omega)]
        rfl
      · rw [if_neg hu, show (((u : Int) == 1) && (x.Coef == 4)) = false by rw [← Bool.not_eq_true]; simp only [Bool.and_eq_true, beq_iff_eq]; intro h; exact hu ⟨by omega, h.2⟩, cond_false]
        rfl
/-- What holds of what was found. -/
structure Fnd (N y : Nat) (c : Int) (z : Nat) : Prop where
  hc : 0 ≤ c ∧ c ≤ 7
  hz : z < 2 ^ N
  hy : z.testBit y = false
theorem rest_ok {N y m : Nat} (hy : y < N) (hm : m < 2 ^ N) (hb : m.testBit y = true) : m ^^^ 2 ^ y < 2 ^ N ∧ (m ^^^ 2 ^ y).testBit y = false := ⟨Nat.xor_lt_two_pow hm (Nat.pow_lt_pow_right (by decide) hy), xor_bit hb⟩
theorem fnd_or {N y : Nat} {c : Int} {z r : Nat} (h : Fnd N y c z) (hr : r < 2 ^ N ∧ r.testBit y = false) : Fnd N y c (z ||| r) := ⟨h.hc, Nat.or_lt_two_pow h.hz hr.1, by rw [Nat.testBit_or, h.hy, hr.2]; rfl⟩
theorem term_nat {p : TPathSum} {N : Nat} (hp : PsOk p N) {i : Nat} {x : TTerm} (hx : p.Terms[i]? = some x) : ∃ m : Nat, x.Mask = (m : Int) ∧ 1 ≤ m ∧ m < 2 ^ N ∧ 1 ≤ x.Coef ∧ x.Coef ≤ 7 := by
  obtain ⟨⟨h1, h2⟩, h3, h4, _⟩ := hp.terms i x hx
  obtain ⟨m, hm, hm2⟩ := a_nat (x := x.Mask) (n := 2 ^ N) (by omega)
  exact ⟨m, hm, by omega, hm2, h3, h4⟩
/-- Past a term that does not fit. -/
theorem ar_bad {p : TPathSum} {N : Nat} (hN : N ≤ 24) (hp : PsOk p N) {y : Nat} (hy : y < N) : ∀ (d i : Nat), i + d = p.Terms.length → ∀ (c : Int) (z : Nat), Fnd N y c z →
    ∃ c' z', forN (F_impl_PathSum_around_l1 p (y : Int)) d i (c, (z : Int), true, false) = some (c', ((z' : Nat) : Int), true, false) ∧ Fnd N y c' z'
  | 0, _, _, c, z, h => ⟨c, z, rfl, h⟩
  | d + 1, i, hi, c, z, h => by
    obtain ⟨_, P2, _⟩ := ps_pow hN
    have gx := List.getElem?_eq_getElem (show i < p.Terms.length by omega)
    generalize p.Terms[i]'(by omega) = x at gx
    obtain ⟨m, hm, hm1, hm2, hc1, hc2⟩ := term_nat hp gx
    have hst := ar_step hN hp hy gx hm (by omega) c z (by have := h.hz; omega) true false
    simp only [forN, hst, Option.bind_some]
    cases hb : m.testBit y with
    | false => simp only [if_true]; exact ar_bad hN hp hy d (i + 1) (by omega) c z h
    | true =>
      simp only [Bool.true_eq_false, if_false]
      split
      · exact ar_bad hN hp hy d (i + 1) (by omega) x.Coef z ⟨by omega, h.hz, h.hy⟩
      · split
        · exact ar_bad hN hp hy d (i + 1) (by omega) c _ (fnd_or h (rest_ok hy hm2 hb))
        · exact ar_bad hN hp hy d (i + 1) (by omega) c z h
theorem or_ne {a b : Nat} (h : b ≠ 0) : a ||| b ≠ 0 := fun e => h (by
  apply Nat.eq_of_testBit_eq
  intro j
  have := congrArg (·.testBit j) e
  simp only [Nat.testBit_or, Nat.zero_testBit, Bool.or_eq_false_iff] at this
  rw [this.2, Nat.zero_testBit])
theorem ar_both {p : TPathSum} {N : Nat} (hN : N ≤ 24) (hp : PsOk p N) {y : Nat} (hy : y < N) : ∀ (d i : Nat), i + d = p.Terms.length → ∀ (c : Int) (z : Nat) (a : Bool), Fnd N y c z → a = !(c == 0 && z == 0) → (a = false → ∀ t ∈ p.Terms.take i, t.Mask.toNat.testBit y = false) →
    ∃ c' z' a' b', forN (F_impl_PathSum_around_l1 p (y : Int)) d i (c, (z : Int), a, true) = some (c', ((z' : Nat) : Int), a', b') ∧ Fnd N y c' z' ∧
      ((b' = true ∧ a' = (!(c' == 0 && z' == 0)) ∧ forX (F_spec_l21Rule_l2 p (y : Int)) d i (c, (z : Int)) = some (.inl (c', (z' : Int))) ∧ (a' = false → ∀ t ∈ p.Terms, t.Mask.toNat.testBit y = false)) ∨
        (b' = false ∧ a' = true ∧ forX (F_spec_l21Rule_l2 p (y : Int)) d i (c, (z : Int)) = some (.inr (0, 0, 0))))
  | 0, i, hi, c, z, a, h, ha, hn => ⟨c, z, a, true, rfl, h, .inl ⟨rfl, ha, rfl, fun h0 => by
      have := hn h0
      rw [show i = p.Terms.length by omega, List.take_length] at this
      exact this⟩⟩
  | d + 1, i, hi, c, z, a, h, ha, hn => by
    obtain ⟨_, P2, _⟩ := ps_pow hN
    have hil : i < p.Terms.length := by omega
    have gx := List.getElem?_eq_getElem hil
    have htk : p.Terms.take (i + 1) = p.Terms.take i ++ [p.Terms[i]] := by rw [List.take_add_one, gx]; rfl
    generalize p.Terms[i] = x at gx htk
    obtain ⟨m, hm, hm1, hm2, hc1, hc2⟩ := term_nat hp gx
    have hst := ar_step hN hp hy gx hm (by omega) c z (by have := h.hz; omega) a true
    have hsu := ru_step hN hp hy gx hm (by omega) c z (by have := h.hz; omega)
    simp only [forN, forX, hst, hsu, Option.bind_some]
    cases hb : m.testBit y with
    | false =>
      simp only [if_true]
      exact ar_both hN hp hy d (i + 1) (by omega) c z a h ha (fun h0 t ht => by
        rw [htk] at ht
        rcases List.mem_append.1 ht with ht | ht
        · exact hn h0 t ht
        · rw [List.mem_singleton.1 ht, hm, Int.toNat_natCast]; exact hb)
    | true =>
      simp only [Bool.true_eq_false, if_false]
      by_cases h0 : m ^^^ 2 ^ y = 0
      · rw [if_pos h0, if_pos h0]
        exact ar_both hN hp hy d (i + 1) (by omega) x.Coef z true ⟨by omega, h.hz, h.hy⟩ (by rw [show (x.Coef == 0) = false by simp; omega]; rfl) (fun h => by cases h)
      · rw [if_neg h0, if_neg h0]
        by_cases hu : (setW (m ^^^ 2 ^ y) 32).length = 1
        · by_cases h4 : x.Coef = 4
          · rw [if_pos hu, if_pos ⟨hu, h4⟩, h4, show ((4 : Int) == 4) = true from rfl]
            exact ar_both hN hp hy d (i + 1) (by omega) c _ true (fnd_or h (rest_ok hy hm2 hb)) (by rw [show ((z ||| (m ^^^ 2 ^ y)) == 0) = false by simpa using or_ne h0, Bool.and_false]; rfl) (fun h => by cases h)
          · rw [if_pos hu, if_neg (fun h => h4 h.2), show (x.Coef == 4) = false by simpa using h4]
            obtain ⟨c', z', e1, e2⟩ := ar_bad hN hp hy d (i + 1) (by omega) c _ (fnd_or h (rest_ok hy hm2 hb))
            exact ⟨c', z', true, false, e1, e2, .inr ⟨rfl, rfl, rfl⟩⟩
        · rw [if_neg hu, if_neg (fun h => hu h.1)]
          obtain ⟨c', z', e1, e2⟩ := ar_bad hN hp hy d (i + 1) (by omega) c z h
          exact ⟨c', z', true, false, e1, e2, .inr ⟨rfl, rfl, rfl⟩⟩

theorem ps_tm {p : TPathSum} {N : Nat} (hN : N ≤ 24) (hp : PsOk p N) : TmOk p.Terms := by
  obtain ⟨_, P2, _⟩ := ps_pow hN
  refine ⟨?_, fun t ht => ?_⟩
  · rw [List.pairwise_iff_getElem]
    intro i j hi hj hij
    have h := mask_mono (T := p.Terms) (fun i x y hx hy => (hp.terms (i + 1) y hy).2.2.2 (by omega) x (by simpa using hx)) (j - i - 1) i p.Terms[i] p.Terms[j] (List.getElem?_eq_getElem hi) (by rw [show i + (j - i - 1 + 1) = j by omega]; exact List.getElem?_eq_getElem hj)
    exact h
  · obtain ⟨i, hi, rfl⟩ := List.getElem_of_mem ht
    obtain ⟨h1, h2, h3, _⟩ := hp.terms i _ (List.getElem?_eq_getElem hi)
    exact ⟨h1.1, by omega, h2, h3⟩
theorem tm_take {T : List TTerm} (h : TmOk T) (i : Nat) : TmOk (T.take i) := tm_sub h (List.take_sublist i T)
theorem cof_take {T : List TTerm} (h : TmOk T) {i : Nat} {x : TTerm} (hx : T[i]? = some x) {m : Nat} (hm : x.Mask = (m : Int)) (j : Nat) : cofT (T.take (i + 1)) j = if j = m then x.Coef else cofT (T.take i) j := by
  have htk : T.take (i + 1) = T.take i ++ [x] := by rw [List.take_add_one, hx]; rfl
  refine cof_upd (tm_take h i) (tm_take h (i + 1)) (fun t ht => ?_) (.inl ⟨x, by rw [htk]; simp, hm, rfl⟩) j
  rw [htk, List.mem_append, List.mem_singleton]
  exact ⟨fun h => h.elim id (fun e => absurd (e ▸ hm) ht), .inl⟩
theorem cof_new {T : List TTerm} (h : TmOk T) {i : Nat} {x : TTerm} (hx : T[i]? = some x) {m : Nat} (hm : x.Mask = (m : Int)) : cofT (T.take i) m = 0 := by
  refine cof_no fun t ht e => ?_
  obtain ⟨k, hk, rfl⟩ := List.getElem_of_mem ht
  rw [List.length_take] at hk
  have hi := (List.getElem?_eq_some_iff.1 hx)
  have := List.pairwise_iff_getElem.1 h.srt k i (by omega) hi.1 (by omega)
  rw [hi.2] at this
  rw [List.getElem_take] at e
  omega
/-- The program's map of a path sum. -/
theorem poly_of {p : TPathSum} {N : Nat} (hN : N ≤ 24) (hp : PsOk p N) (hlen : p.Terms.length ≤ 1099511627776) :
    ∃ l, F_impl_polyOf p = some l ∧ MpOk l ∧ (∀ j : Nat, mgt l (j : Int) 0 = if j = 0 then p.Phase else cofT p.Terms j) ∧ ∀ q ∈ l, q.1 = 0 ∨ ∃ t ∈ p.Terms, t.Mask = q.1 := by
  have hT := ps_tm hN hp
  have hph := hp.phase
  have key : ∀ (d i : Nat) (l : List (Int × Int)), i + d = p.Terms.length → MpOk l → (∀ j : Nat, mgt l (j : Int) 0 = if j = 0 then p.Phase else cofT (p.Terms.take i) j) → (∀ q ∈ l, q.1 = 0 ∨ ∃ t ∈ p.Terms, t.Mask = q.1) →
      ∃ l', forN (F_impl_polyOf_l1 p) d i l = some l' ∧ MpOk l' ∧ (∀ j : Nat, mgt l' (j : Int) 0 = if j = 0 then p.Phase else cofT p.Terms j) ∧ ∀ q ∈ l', q.1 = 0 ∨ ∃ t ∈ p.Terms, t.Mask = q.1 := by
    intro d
    induction d with
    | zero =>
      intro i l hi h1 h2 h3
      refine ⟨l, rfl, h1, ?_, h3⟩
      rw [show i = p.Terms.length by omega, List.take_length] at h2
      exact h2
    | succ d ih =>
      intro i l hi h1 h2 h3
      have gx := List.getElem?_eq_getElem (show i < p.Terms.length by omega)
      have mx : p.Terms[i]'(by omega) ∈ p.Terms := List.getElem_mem _
      generalize p.Terms[i]'(by omega) = x at gx mx
      obtain ⟨m, hm, hm1, hm2, hc1, hc2⟩ := term_nat hp gx
      have hr := hT.rng x mx
      have hst : F_impl_polyOf_l1 p i l = some (mput l x.Mask x.Coef) := by
        unfold F_impl_polyOf_l1
        rw [getI_nat, gx]; rfl
      simp only [forN, hst, Option.bind_some]
      refine ih (i + 1) _ (by omega) ⟨mput_key h1.key, fun q hq => ?_⟩ (fun j => ?_) (fun q hq => ?_)
      · rcases mput_mem hq with rfl | hq
        · simp only; omega
        · exact h1.rng q hq
      · rw [mgt_put, cof_take hT gx hm, h2]
        by_cases hj : j = m
        · subst hj
          rw [if_pos hm.symm, if_neg (by omega), if_pos rfl]
        · rw [if_neg (show ¬ (j : Int) = x.Mask by omega), if_neg hj]
      · rcases mput_mem hq with rfl | hq
        · exact .inr ⟨x, mx, rfl⟩
        · exact h3 q hq
  unfold F_impl_polyOf
  rw [chk_t (by omega)]
  obtain ⟨l', e, h1, h2, h3⟩ := key p.Terms.length 0 (mput ([] : List (Int × Int)) 0 p.Phase) (by omega) ⟨by
      rw [show mput ([] : List (Int × Int)) 0 p.Phase = [(0, p.Phase)] from rfl]; simp, fun q hq => by
      rw [show mput ([] : List (Int × Int)) 0 p.Phase = [(0, p.Phase)] from rfl] at hq
      rw [List.mem_singleton.1 hq]; simp only; omega⟩ (fun j => by
      rw [mgt_put]
      by_cases hj : j = 0
      · subst hj; rfl
      · rw [if_neg (show ¬ (j : Int) = 0 by omega), if_neg hj]; rfl) (fun q hq => by
      rw [show mput ([] : List (Int × Int)) 0 p.Phase = [(0, p.Phase)] from rfl] at hq
      rw [List.mem_singleton.1 hq]; exact .inl rfl)
  exact ⟨l', by rw [e]; rfl, h1, h2, h3⟩
theorem mgt_same {l l' : List (Int × Int)} (h : MpOk l) (hs : l'.Sublist l) {a : Int} (hk : ∀ q ∈ l, q.1 = a → q ∈ l') : mgt l' a 0 = mgt l a 0 := by
  by_cases hq : ∃ q ∈ l, q.1 = a
  · obtain ⟨⟨x, y⟩, hm, he⟩ := hq
    simp only at he
    subst he
    rw [mgt_mem h.key hm, mgt_mem (h.key.sublist hs) (hk _ hm rfl)]
  · rw [mgt_no (fun q hm e => hq ⟨q, hm, e⟩), mgt_no (fun q hm e => hq ⟨q, hs.subset hm, e⟩)]
/-- The program's map without the terms of a variable. -/
theorem strip_map {p : TPathSum} {N : Nat} (hN : N ≤ 24) (hp : PsOk p N) (hlen : p.Terms.length ≤ 1099511627776) {y : Nat} (hy : y < N) :
    ∃ r l, F_impl_polyOf p = some r ∧ forN (F_impl_PathSum_stripped_l1 p (y : Int)) p.Terms.length 0 r = some l ∧ MpOk l ∧ (∀ j : Nat, j.testBit y = false → mgt l (j : Int) 0 = if j = 0 then p.Phase else cofT p.Terms j) ∧ ∀ q ∈ l, q.1.toNat.testBit y = false ∧ 0 ≤ q.1 ∧ q.1 < ((2 ^ N : Nat) : Int) := by
  obtain ⟨_, P2, P3⟩ := ps_pow hN
  obtain ⟨r, r1, r2, r3, r4⟩ := poly_of hN hp hlen
  have key : ∀ (d i : Nat) (l : List (Int × Int)), i + d = p.Terms.length → l.Sublist r → (∀ q ∈ r, q.1.toNat.testBit y = false → q ∈ l) → (∀ q ∈ l, ∀ t ∈ p.Terms.take i, t.Mask.toNat.testBit y = true → q.1 ≠ t.Mask) →
      ∃ l', forN (F_impl_PathSum_stripped_l1 p (y : Int)) d i l = some l' ∧ l'.Sublist r ∧ (∀ q ∈ r, q.1.toNat.testBit y = false → q ∈ l') ∧ (∀ q ∈ l', ∀ t ∈ p.Terms, t.Mask.toNat.testBit y = true → q.1 ≠ t.Mask) := by
    intro d
    induction d with
    | zero =>
      intro i l hi h1 h2 h3
      refine ⟨l, rfl, h1, h2, ?_⟩
      rw [show i = p.Terms.length by omega, List.take_length] at h3
      exact h3
    | succ d ih =>
      intro i l hi h1 h2 h3
      have gx := List.getElem?_eq_getElem (show i < p.Terms.length by omega)
      have htk : p.Terms.take (i + 1) = p.Terms.take i ++ [p.Terms[i]'(by omega)] := by rw [List.take_add_one, gx]; rfl
      generalize p.Terms[i]'(by omega) = x at gx htk
      obtain ⟨m, hm, hm1, hm2, hc1, hc2⟩ := term_nat hp gx
      have hst : F_impl_PathSum_stripped_l1 p (y : Int) i l = some (if m.testBit y = true then mdel l x.Mask else l) := by
        unfold F_impl_PathSum_stripped_l1
        rw [getI_nat, gx, Option.bind_some, chk_t (by omega), hm, ps_bit1 (by omega) (by omega)]
        cases m.testBit y <;> rfl
      simp only [forN, hst, Option.bind_some]
      by_cases hb : m.testBit y = true
      · rw [if_pos hb]
        have hsub : (mdel l x.Mask).Sublist l := by unfold mdel; exact List.filter_sublist
        refine ih (i + 1) _ (by omega) (hsub.trans h1) (fun q hq hqy => ?_) (fun q hq t ht hty => ?_)
        · unfold mdel
          rw [List.mem_filter]
          refine ⟨h2 q hq hqy, ?_⟩
          have : q.1 ≠ x.Mask := fun e => by
            rw [e, hm, Int.toNat_natCast, hb] at hqy; cases hqy
          simp [this]
        · rw [htk, List.mem_append, List.mem_singleton] at ht
          unfold mdel at hq
          rw [List.mem_filter] at hq
          rcases ht with ht | rfl
          · exact h3 q hq.1 t ht hty
          · simpa using hq.2
      · rw [if_neg hb]
        refine ih (i + 1) _ (by omega) h1 h2 (fun q hq t ht hty => ?_)
        rw [htk, List.mem_append, List.mem_singleton] at ht
        rcases ht with ht | rfl
        · exact h3 q hq t ht hty
        · rw [hm, Int.toNat_natCast] at hty
          exact absurd hty hb
  obtain ⟨l, e, h1, h2, h3⟩ := key p.Terms.length 0 r (by omega) (List.Sublist.refl r) (fun q hq _ => hq) (fun q _ t ht => by rw [List.take_zero] at ht; cases ht)
  refine ⟨r, l, r1, e, ⟨r2.key.sublist h1, fun q hq => r2.rng q (h1.subset hq)⟩, fun j hj => ?_, fun q hq => ?_⟩
  · rw [← r3 j]
    exact mgt_same r2 h1 (fun q hq he => h2 q hq (by rw [he, Int.toNat_natCast]; exact hj))
  · rcases r4 q (h1.subset hq) with h0 | ⟨t, ht, he⟩
    · rw [h0]; exact ⟨Nat.zero_testBit y, by decide, by omega⟩
    · obtain ⟨k, hk, rfl⟩ := List.getElem_of_mem ht
      obtain ⟨m, hm, hm1, hm2, _⟩ := term_nat hp (List.getElem?_eq_getElem hk)
      refine ⟨?_, by omega, by omega⟩
      cases hb : q.1.toNat.testBit y with
      | false => rfl
      | true => exact absurd he.symm (h3 q hq _ ht (by rw [he]; exact hb))
theorem times_zero (s : Tl21Sum) (m k : Int) : F_spec_l21Sum_times s m k (TAffine.mk 0 0) = some s := by
  unfold F_spec_l21Sum_times
  simp only
  rw [show F_spec_l1Set 0 = some [] from setW_eq (x := 0) (by decide)]
  rfl
/-- The reference's sum without the terms of a variable. -/
theorem strip_spec {p : TPathSum} {N : Nat} (hN : N ≤ 24) (hp : PsOk p N) {y : Nat} (hy : y < N) :
    ∃ ph T, forN (F_spec_l21Replace_l1 p (y : Int) (TAffine.mk 0 0)) p.Terms.length 0 (p.Phase, []) = some (ph, T) ∧ (0 ≤ ph ∧ ph ≤ 7) ∧ TmOk T ∧ ∀ j : Nat, j.testBit y = false → sf ph T (dr y j) = if j = 0 then p.Phase else cofT p.Terms j := by
  have hT := ps_tm hN hp
  obtain ⟨_, P2, P3⟩ := ps_pow hN
  have key : ∀ (d i : Nat) (ph : Int) (T : List TTerm), i + d = p.Terms.length → (0 ≤ ph ∧ ph ≤ 7) → TmOk T → (∀ j : Nat, j.testBit y = false → sf ph T (dr y j) = if j = 0 then p.Phase else cofT (p.Terms.take i) j) →
      ∃ ph' T', forN (F_spec_l21Replace_l1 p (y : Int) (TAffine.mk 0 0)) d i (ph, T) = some (ph', T') ∧ (0 ≤ ph' ∧ ph' ≤ 7) ∧ TmOk T' ∧ ∀ j : Nat, j.testBit y = false → sf ph' T' (dr y j) = if j = 0 then p.Phase else cofT p.Terms j := by
    intro d
    induction d with
    | zero =>
      intro i ph T hi h1 h2 h3
      refine ⟨ph, T, rfl, h1, h2, ?_⟩
      rw [show i = p.Terms.length by omega, List.take_length] at h3
      exact h3
    | succ d ih =>
      intro i ph T hi h1 h2 h3
      have gx := List.getElem?_eq_getElem (show i < p.Terms.length by omega)
      generalize p.Terms[i]'(by omega) = x at gx
      obtain ⟨m, hm, hm1, hm2, hc1, hc2⟩ := term_nat hp gx
      have hco := fun j => cof_take hT gx hm j
      have hcn := cof_new hT gx hm
      have hdm := dr_le y m
      have hst : F_spec_l21Replace_l1 p (y : Int) (TAffine.mk 0 0) i (ph, T) = (bif !m.testBit y then ((F_spec_l21Sum_add (Tl21Sum.mk ph T) ((dr y m : Nat) : Int) x.Coef).bind fun m => some (m.phase, m.terms)) else some (ph, T)) := by
        unfold F_spec_l21Replace_l1
        simp only
        rw [getI_nat, gx, Option.bind_some, wrapU (show y < 18446744073709551616 by omega), chk_t (by omega), hm, shr_bit0 (by omega) (by omega), drop_s (by omega) (by omega), show F_spec_l21Drop 0 (y : Int) = some 0 from (drop_s (m := 0) (by decide) (by omega)).trans (by rw [dr_zero]; rfl)]
        simp only [Option.bind_some, times_zero]
        cases m.testBit y with
        | false =>
          simp only [Bool.not_false, cond_true]
          cases F_spec_l21Sum_add (Tl21Sum.mk ph T) ((dr y m : Nat) : Int) x.Coef <;> rfl
        | true => rfl
      simp only [forN, hst]
      cases hb : m.testBit y with
      | false =>
        obtain ⟨ph', T', a1, a2, a3, a4⟩ := s_add h1 h2 (m := dr y m) (by omega) (k := x.Coef) (by omega)
        simp only [Bool.not_false, cond_true, Option.bind_some, a1]
        refine ih (i + 1) ph' T' (by omega) a2 a3 (fun j hj => ?_)
        rw [a4, hco]
        by_cases hjm : j = m
        · subst hjm
          rw [if_pos rfl, h3 j hb, if_neg (by omega), hcn, if_neg (by omega), if_pos rfl]
          omega
        · rw [if_neg (fun e => hjm (dr_inj hj hb e)), if_neg hjm]
          exact h3 j hj
      | true =>
        simp only [Bool.not_true, cond_false, Option.bind_some]
        refine ih (i + 1) ph T (by omega) h1 h2 (fun j hj => ?_)
        rw [hco, if_neg (show ¬ j = m from fun e => by rw [e, hb] at hj; cases hj)]
        exact h3 j hj
  refine key p.Terms.length 0 p.Phase [] (by omega) hp.phase ⟨List.Pairwise.nil, fun t ht => by cases ht⟩ (fun j hj => ?_)
  rw [List.take_zero]
  unfold sf
  by_cases hj0 : j = 0
  · subst hj0; rw [if_pos (dr_zero y), if_pos rfl]
  · rw [if_neg (fun e => hj0 (dr_inj hj (Nat.zero_testBit y) (e.trans (dr_zero y).symm))), if_neg hj0]
    rfl

def drT (v : Nat) (t : TTerm) : TTerm := TTerm.mk ((dr v t.Mask.toNat : Nat) : Int) t.Coef
theorem without_eq {q : TPathSum} {v : Nat} (hv : v ≤ 24) (hL : q.Terms.length ≤ 1099511627775) (hO : q.Out.length ≤ 1099511627775) (h1 : ∀ t ∈ q.Terms, ∃ m : Nat, t.Mask = (m : Int) ∧ m < 16777216) (h2 : ∀ a ∈ q.Out, ∃ m : Nat, a.Mask = (m : Int) ∧ m < 16777216) :
    F_impl_PathSum_without q (v : Int) = some (TPathSum.mk q.Ins (IntKind.i64.wrap (q.Vars - 1)) q.Root q.Phase (q.Terms.map (drT v)) (q.Out.map (outD v))) := by
  have w3 : whX (F_impl_PathSum_without_l1 q (v : Int)) fuel ([], 0) = some (.inl (q.Terms.map (drT v), (q.Terms.length : Int))) := by
    refine wh_map q.Terms _ (by omega) (fun i x O hx hO => ?_) fun O => ?_
    · have hi := (List.getElem?_eq_some_iff.1 hx).1
      obtain ⟨m, hm, hm2⟩ := h1 x (List.mem_of_getElem? hx)
      unfold F_impl_PathSum_without_l1
      simp only
      rw [decide_eq_true (show (i : Int) < (q.Terms.length : Int) by omega), cond_true, getI_nat, hx, Option.bind_some, hm, drop_i (by omega) (by omega), Option.bind_some, chk_t (by omega), ps_w (a := (i : Int) + 1) (by omega)]
      unfold drT
      rw [hm, Int.toNat_natCast]
      rfl
    · unfold F_impl_PathSum_without_l1
      simp only
      rw [decide_eq_false (by omega), cond_false]
  have w4 : whX (F_impl_PathSum_without_l2 q (v : Int)) fuel ([], 0) = some (.inl (q.Out.map (outD v), (q.Out.length : Int))) := by
    refine wh_map q.Out (outD v) (by omega) (fun i x O hx hO => ?_) fun O => ?_
    · have hi := (List.getElem?_eq_some_iff.1 hx).1
      obtain ⟨m, hm, hm2⟩ := h2 x (List.mem_of_getElem? hx)
      unfold F_impl_PathSum_without_l2
      simp only
      rw [decide_eq_true (show (i : Int) < (q.Out.length : Int) by omega), cond_true, getI_nat, hx, Option.bind_some, hm, drop_i (by omega) (by omega), Option.bind_some, chk_t (by omega), ps_w (a := (i : Int) + 1) (by omega)]
      unfold outD
      rw [hm, Int.toNat_natCast]
      rfl
    · unfold F_impl_PathSum_without_l2
      simp only
      rw [decide_eq_false (by omega), cond_false]
  unfold F_impl_PathSum_without
  rw [w3]
  simp only [orR, Option.bind_some]
  rw [w4]
  simp only [orR, Option.bind_some]
theorem out_nat {p : TPathSum} {N : Nat} (hN : N ≤ 24) (hp : PsOk p N) : ∀ a ∈ p.Out, ∃ m : Nat, a.Mask = (m : Int) ∧ m < 16777216 := fun x hx => by
  obtain ⟨_, P2, _⟩ := ps_pow hN
  obtain ⟨m, h1, h2⟩ := a_nat (hp.outs x hx).1
  exact ⟨m, h1, by omega⟩
/-- What both have where a variable is taken out. -/
structure Strip (p : TPathSum) (N y : Nat) (l : List (Int × Int)) (T : List TTerm) : Prop where
  mp : ∃ r, F_impl_polyOf p = some r ∧ forN (F_impl_PathSum_stripped_l1 p (y : Int)) p.Terms.length 0 r = some l
  sp : F_spec_l21Without p (y : Int) = some (TPathSum.mk p.Ins (IntKind.i64.wrap (p.Vars - 1)) p.Root p.Phase T (p.Out.map (outD y)))
  rl : ∀ c : Int, Rl (dr y) (fun m => m.testBit y = false) c l ((p.Phase + c) % 8) T
  ps : ∀ R : Int, PsOk (TPathSum.mk p.Ins (p.Vars - 1) R p.Phase T (p.Out.map (outD y))) (N - 1)
  el : (∀ t ∈ p.Terms, t.Mask.toNat.testBit y = false) → T = p.Terms.map (drT y)
theorem strip_all {p : TPathSum} {N : Nat} (hN : N ≤ 24) (hp : PsOk p N) (hlen : p.Terms.length ≤ 1099511627776) {y : Nat} (hy : y < N) (hiy : p.Ins ≤ (y : Int)) (hout : ∀ a ∈ p.Out, a.Mask.toNat.testBit y = false) : ∃ l T, Strip p N y l T := by
  obtain ⟨_, P2, P3⟩ := ps_pow hN
  obtain ⟨r, l, m1, m2, m3, m4, m5⟩ := strip_map hN hp hlen hy
  obtain ⟨ph, T, s1, s2, s3, s4⟩ := strip_spec hN hp hy
  have hph := hp.phase
  have hT0 := ps_tm hN hp
  have hin := hp.ins; have hva := hp.vars; have hnu := hp.num
  have e0 : ph = p.Phase := by
    have := s4 0 (Nat.zero_testBit y)
    rw [dr_zero] at this
    unfold sf at this
    rw [if_pos rfl, if_pos rfl] at this
    exact this
  subst e0
  have rl : ∀ c : Int, Rl (dr y) (fun m => m.testBit y = false) c l ((p.Phase + c) % 8) T := fun c => by
    refine ⟨by omega, s3, m3, fun j hj => ?_, fun q hq => (m5 q hq).1⟩
    have h1 := s4 j hj
    have h2 := m4 j hj
    have h3 := mgt_rng m3 (j : Int)
    by_cases hj0 : j = 0
    · subst hj0
      rw [if_pos rfl] at h2
      unfold sf
      rw [if_pos (dr_zero y), if_pos rfl, h2]
    · have hd : dr y j ≠ 0 := fun e => hj0 (dr_inj hj (Nat.zero_testBit y) (e.trans (dr_zero y).symm))
      rw [if_neg hj0] at h1 h2
      unfold sf at h1 ⊢
      rw [if_neg hd] at h1 ⊢
      rw [if_neg hj0, h1, h2]
      omega
  obtain ⟨d1, d2⟩ := dr_terms (rl 0)
  have houts : p.Out.length ≤ 5 := by have := hp.out; omega
  have on := out_nat hN hp
  -- the reference's values
  have w2 : whX (F_spec_l21Replace_l2 p (y : Int) (TAffine.mk 0 0)) fuel ([], 0) = some (.inl (p.Out.map (outD y), (p.Out.length : Int))) := by
    refine wh_map p.Out (outD y) (by omega) (fun i x O hx hO => ?_) fun O => ?_
    · have hi := (List.getElem?_eq_some_iff.1 hx).1
      obtain ⟨m, h1, h2⟩ := on x (List.mem_of_getElem? hx)
      have hb := hout x (List.mem_of_getElem? hx)
      rw [h1, Int.toNat_natCast] at hb
      unfold F_spec_l21Replace_l2
      simp only
      rw [decide_eq_true (show (i : Int) < (p.Out.length : Int) by omega), cond_true, getI_nat, hx, Option.bind_some, wrapU (show y < 18446744073709551616 by omega), chk_t (by omega), h1, ps_bit1 (by omega) (by omega), ps_w (a := (i : Int) + 1) (by omega), hb]
      simp only [cond_false, Option.bind_some]
      rw [drop_s (by omega) (by omega), Option.bind_some, chk_t (by omega)]
      unfold outD
      rw [h1, Int.toNat_natCast]
      rfl
    · unfold F_spec_l21Replace_l2
      simp only
      rw [decide_eq_false (by omega), cond_false]
  refine ⟨l, T, ⟨r, m1, m2⟩, ?_, rl, fun R => ?_, fun hoff => ?_⟩
  · unfold F_spec_l21Without F_spec_l21Replace
    rw [chk_t (by omega), s1]
    simp only [Option.bind_some]
    rw [w2]
    rfl
  · -- what is left is a path sum
    have hN1 : ((N - 1 : Nat) : Int) = (N : Int) - 1 := by omega
    have hdl : ∀ m : Nat, m < 2 ^ N → dr y m < 2 ^ (N - 1) := fun m hm => dr_lt hy hm
    have tb : ∀ t ∈ T, t.Mask ≤ ((2 ^ (N - 1) : Nat) : Int) - 1 := fun t ht => by
      rw [← d1] at ht
      obtain ⟨t', ht', rfl⟩ := List.mem_map.1 ht
      have h1 := (mem_termsOf.1 ht').1
      have h2 := m5 _ h1
      have := hdl t'.Mask.toNat (by have := h2.2; simp only at this; omega)
      simp only; omega
    refine ⟨hin, ⟨by simp only; omega, by simp only; omega⟩, hph, by simp only; rw [List.length_map]; exact hp.out, by simp only; omega, fun i x hx => ?_, fun a ha => ?_⟩
    · have hx' : T[i]? = some x := hx
      have hi := List.getElem?_eq_some_iff.1 hx'
      have mx := List.mem_of_getElem? hx'
      have h1 := s3.rng x mx
      refine ⟨⟨h1.1, tb x mx⟩, h1.2.2.1, h1.2.2.2, fun hi0 z hz => ?_⟩
      have hz' : T[i - 1]? = some z := hz
      have hz2 := List.getElem?_eq_some_iff.1 hz'
      have := List.pairwise_iff_getElem.1 s3.srt (i - 1) i hz2.1 hi.1 (by omega)
      rw [hz2.2, hi.2] at this
      exact this
    · obtain ⟨a', ha', rfl⟩ := List.mem_map.1 ha
      obtain ⟨⟨h1, h2⟩, h3⟩ := hp.outs a' ha'
      have := hdl a'.Mask.toNat (by omega)
      unfold outD
      exact ⟨by simp only; omega, h3⟩
  · have : termsOf l = p.Terms := by
      obtain ⟨_, t2, t3⟩ := terms_ok m3
      refine tm_ext t2 hT0 (fun j hj => ?_)
      rw [t3 j hj]
      cases hb : j.testBit y with
      | false => rw [m4 j hb, if_neg (by omega)]
      | true =>
        rw [mgt_no (fun q hq e => by
          have := (m5 q hq).1
          rw [e, Int.toNat_natCast, hb] at this; cases this), cof_no (fun t ht e => by
          have := hoff t ht
          rw [e, Int.toNat_natCast, hb] at this; cases this)]
    rw [← d1, this]
    rfl
/-- The program's way, the multiple laid on. -/
theorem stripped_eq {p : TPathSum} {N : Nat} (hN : N ≤ 24) (hp : PsOk p N) (hlen : p.Terms.length ≤ 1099511627776) {y : Nat} (hy : y < N) {l l' : List (Int × Int)} {T : List TTerm} (h : Strip p N y l T) {k S c ph' : Int} {T' : List TTerm}
    (he : F_impl_polynomial_expand l k (TAffine.mk S 0) 0 = some l') (hr : Rl (dr y) (fun m => m.testBit y = false) c l' ph' T') :
    F_impl_PathSum_stripped p (y : Int) k S = some (TPathSum.mk p.Ins (IntKind.i64.wrap (p.Vars - 1)) p.Root (mgt l' 0 0) T' (p.Out.map (outD y))) := by
  obtain ⟨r, m1, m2⟩ := h.mp
  obtain ⟨t1, t2, _⟩ := terms_ok hr.mp
  obtain ⟨d1, _⟩ := dr_terms hr
  have hl := t2.len
  have houts : p.Out.length ≤ 5 := by have := hp.out; have := hp.ins; omega
  unfold F_impl_PathSum_stripped
  rw [m1, Option.bind_some, chk_t (by omega), m2, Option.bind_some, he, Option.bind_some, t1, Option.bind_some, without_eq (q := TPathSum.mk p.Ins p.Vars p.Root (mgt l' 0 0) (termsOf l') p.Out) (v := y) (by omega) (by simp only; omega) (by simp only; omega) (fun t ht => by
    have := t2.rng t ht
    exact ⟨t.Mask.toNat, by omega, by omega⟩) (fun a ha => out_nat hN hp a ha)]
  rw [← d1]
  rfl

theorem first_set {w k : Nat} (hw : w < 16777216) (h1 : w.testBit k = true) (h2 : ∀ j, j < k → w.testBit j = false) : getI (cI (setW w 32)) 0 = some (k : Int) := by
  have hk : k ∈ setW w 32 := (setW_mem32 hw).2 h1
  have hs := setW_sorted w 32
  have hm : ∀ x ∈ setW w 32, k ≤ x := fun x hx => by
    have := (setW_mem32 hw).1 hx
    rcases Nat.lt_or_ge x k with h | h
    · rw [h2 x h] at this; cases this
    · exact h
  generalize setW w 32 = S at hk hs hm
  cases S with
  | nil => cases hk
  | cons a S =>
    have ha := hm a (.head _)
    have : a = k := by
      rcases List.mem_cons.1 hk with h | h
      · exact h.symm
      · have := (List.pairwise_cons.1 hs).1 k h
        omega
    subst this
    rfl
theorem s_addz {ph k : Int} {T : List TTerm} (hp : 0 ≤ ph ∧ ph ≤ 7) (hk : 0 ≤ k ∧ k ≤ 7) : F_spec_l21Sum_add (Tl21Sum.mk ph T) 0 k = some (Tl21Sum.mk ((ph + k) % 8) T) := by
  unfold F_spec_l21Sum_add
  simp only
  rw [k8 (by omega), show ((0 : Int) == 0) = true from rfl, cond_true, k8' (by omega)]
  congr 2
  omega
theorem expand_zero (l : List (Int × Int)) (k : Int) : F_impl_polynomial_expand l k (TAffine.mk 0 0) 0 = some l := by
  unfold F_impl_polynomial_expand
  simp only
  rw [show F_impl_bitsOf 0 = some [] from bitsOf_eq (x := 0) (by decide)]
  rfl
/-- What a step of both comes to. -/
def StepR (p : TPathSum) (y : Nat) : Prop :=
  (F_spec_l21Step_l1 p (y : Int) = some (.nx ((y + 1 : Nat) : Int)) ∧ F_impl_ReduceStep_l1 p (y : Int) = some (.nx ((y + 1 : Nat) : Int))) ∨
    ∃ out rule b, F_spec_l21Step_l1 p (y : Int) = some (.rt (out, rule, true)) ∧ F_spec_l21Valid out = some b ∧ F_impl_ReduceStep_l1 p (y : Int) = some (.rt (if b = true then (out, rule, true) else (TPathSum.mk 0 0 0 0 [] [], 0, false))) ∧ out.Terms.length ≤ 16777216 ∧ out.Out.length ≤ 5 ∧ out.Vars < p.Vars
/-- From the rule's answer. -/
theorem step_of {p : TPathSum} {N : Nat} (hN : N ≤ 24) (hp : PsOk p N) {y : Nat} (hy : y < N) (hF : F_slices_ContainsFunc_impl_Affine_impl_Affine p.Out (fun x_0 => F_impl_ReduceStep_1 x_0 (y : Int)) = some false) {out : TPathSum} {rule : Int} (h0 : (rule == 0) = false)
    (hi : F_impl_PathSum_ruled p (y : Int) = some (out, rule)) (hs : F_spec_l21Step_l1 p (y : Int) = some (.rt (out, rule, true))) (ht : out.Terms.length ≤ 16777216) (ho : out.Out.length ≤ 5) (hv : out.Vars < p.Vars) : StepR p y := by
  obtain ⟨b, v1, v2, _⟩ := ps_valid (p := out) (by omega) (by omega)
  have hin := hp.ins; have hva := hp.vars; have hnu := hp.num
  refine .inr ⟨out, rule, b, hs, v1, ?_, ht, ho, hv⟩
  unfold F_impl_ReduceStep_l1
  rw [hnu, ps_w (by omega), decide_eq_true (show (y : Int) < (N : Int) by omega), cond_true, hF]
  simp only [Option.bind_some, cond_false]
  rw [hi]
  simp only [Option.bind_some]
  rw [h0, cond_false, v2]
  cases b <;> rfl
theorem tm4 {c : Int} (h : 0 ≤ c ∧ c ≤ 7) : (Int.tmod c 4 == 2) = ((c == 2) || (c == 6)) ∧ (Int.tmod c 4 == 0) = ((c == 0) || (c == 4)) := by
  have : c = 0 ∨ c = 1 ∨ c = 2 ∨ c = 3 ∨ c = 4 ∨ c = 5 ∨ c = 6 ∨ c = 7 := by omega
  rcases this with rfl | rfl | rfl | rfl | rfl | rfl | rfl | rfl <;> decide
theorem step_y {p : TPathSum} {N : Nat} (hN : N ≤ 24) (hp : PsOk p N) (hlen : p.Terms.length ≤ 1099511627776) {y : Nat} (hy : y < N) (hiy : p.Ins ≤ (y : Int)) : StepR p y := by
  obtain ⟨_, P2, P3⟩ := ps_pow hN
  have hin := hp.ins; have hva := hp.vars; have hnu := hp.num; have hph := hp.phase
  have houts : p.Out.length ≤ 5 := by have := hp.out; omega
  have on := out_nat hN hp
  have hu : IntKind.u64.wrap (y : Int) = (y : Int) := wrapU (by omega)
  have lt1 : decide ((y : Int) < (N : Int)) = true := decide_eq_true (by omega)
  -- the values
  have hci : ∀ b, (p.Out.any fun a => a.Mask.toNat.testBit y) = b → F_slices_ContainsFunc_impl_Affine_impl_Affine p.Out (fun x_0 => F_impl_ReduceStep_1 x_0 (y : Int)) = some b := fun b hb => by
    have hf : ∀ i x, p.Out[i]? = some x → F_slices_IndexFunc_impl_Affine_impl_Affine_l1 p.Out (fun x_0 => F_impl_ReduceStep_1 x_0 (y : Int)) i () = some (bif x.Mask.toNat.testBit y then .rt (i : Int) else .nx ()) := fun i x hx => by
      obtain ⟨m, hm, hm2⟩ := on x (List.mem_of_getElem? hx)
      unfold F_slices_IndexFunc_impl_Affine_impl_Affine_l1 F_impl_ReduceStep_1
      simp only
      rw [getI_nat, hx, Option.bind_some, chk_t (by omega), hm, ps_bit1 (by omega) (by omega), Int.toNat_natCast, Option.bind_some]
      cases m.testBit y <;> rfl
    unfold F_slices_ContainsFunc_impl_Affine_impl_Affine F_slices_IndexFunc_impl_Affine_impl_Affine
    rw [chk_t (by omega)]
    rcases forX_any hf with ⟨h1, h2⟩ | ⟨h1, i, _, h2⟩
    · rw [h2, ← hb, h1]; rfl
    · rw [h2, ← hb, h1]; simp [orR]
  have hcs : ((p.Out.any fun a => a.Mask.toNat.testBit y) = false ∧ forX (F_spec_l21Rule_l1 p (y : Int)) p.Out.length 0 () = some (.inl ())) ∨ ((p.Out.any fun a => a.Mask.toNat.testBit y) = true ∧ forX (F_spec_l21Rule_l1 p (y : Int)) p.Out.length 0 () = some (.inr (0, 0, 0))) := by
    have hf : ∀ i x, p.Out[i]? = some x → F_spec_l21Rule_l1 p (y : Int) i () = some (bif x.Mask.toNat.testBit y then .rt ((fun _ => ((0 : Int), (0 : Int), (0 : Int))) i) else .nx ()) := fun i x hx => by
      obtain ⟨m, hm, hm2⟩ := on x (List.mem_of_getElem? hx)
      unfold F_spec_l21Rule_l1
      rw [getI_nat, hx, Option.bind_some, hu, chk_t (by omega), hm, ps_bit1 (by omega) (by omega), Int.toNat_natCast]
      cases m.testBit y <;> rfl
    rcases forX_any hf with ⟨h1, h2⟩ | ⟨h1, i, _, h2⟩
    · exact .inl ⟨h1, h2⟩
    · exact .inr ⟨h1, h2⟩
  rcases hcs with ⟨hno, hsl⟩ | ⟨hno, hsl⟩
  rotate_left
  · -- a value holds the variable
    left
    have hrule : F_spec_l21Rule p (y : Int) = some (0, 0, 0) := by
      unfold F_spec_l21Rule
      rw [chk_t (by omega), hsl]; rfl
    constructor
    · unfold F_spec_l21Step_l1
      rw [hnu, ps_w (a := (N : Int)) (by omega), lt1, cond_true, hrule]
      simp only [Option.bind_some, show ((0 : Int) == 0) = true from rfl, cond_true]
      rw [ps_w (by omega)]; rfl
    · unfold F_impl_ReduceStep_l1
      rw [hnu, ps_w (a := (N : Int)) (by omega), lt1, cond_true, hci true hno]
      simp only [Option.bind_some, cond_true, orR]
      rw [ps_w (by omega)]; rfl
  have hF := hci false hno
  have hout : ∀ a ∈ p.Out, a.Mask.toNat.testBit y = false := fun a ha => by
    have := List.any_eq_false.1 hno a ha
    simpa using this
  obtain ⟨c, z, a, b, ra, rf, rr⟩ := ar_both hN hp hy p.Terms.length 0 (by omega) 0 0 false ⟨by decide, by omega, Nat.zero_testBit y⟩ rfl (fun _ t ht => by rw [List.take_zero] at ht; cases ht)
  have z0 : ((0 : Nat) : Int) = 0 := rfl
  rw [z0] at ra rr
  have har : F_impl_PathSum_around p (y : Int) = some (c, (z : Int), a, b) := by
    unfold F_impl_PathSum_around
    rw [chk_t (by omega), ra]; rfl
  have hc := rf.hc; have hz := rf.hz; have hzy := rf.hy
  obtain ⟨I, hI⟩ : ∃ I : Nat, p.Ins = (I : Int) := ⟨p.Ins.toNat, by omega⟩
  have h2I := (ps_shl1 (v := I) (by omega)).1
  have h2Ilt : 2 ^ I < 16777216 := two24 (by omega)
  have h2Ip := Nat.two_pow_pos I
  have uI : IntKind.u64.wrap (I : Int) = (I : Int) := wrapU (by omega)
  obtain ⟨cc, an1, an2, an3⟩ := andNot_i (a := z) (b := 2 ^ I - 1) (by omega) (by omega)
  have hsm : IntKind.i64.wrap (((2 ^ I : Nat) : Int) - 1) = ((2 ^ I - 1 : Nat) : Int) := by rw [ps_w (by omega)]; omega
  have ucc : IntKind.u64.wrap (cc : Int) = (cc : Int) := wrapU (by omega)
  have htz : ∃ tz : Int, F_math_bits_TrailingZeros (cc : Int) = some tz := by
    by_cases h : cc = 0
    · subst h; exact ⟨64, tz_zero⟩
    · obtain ⟨k, q, _, _, hk⟩ := tz_eq h (by omega)
      exact ⟨_, hk⟩
  obtain ⟨tz, htz⟩ := htz
  -- the program's rule, opened
  have hru : F_impl_PathSum_ruled p (y : Int) = (bif !a then ((F_impl_PathSum_without p (y : Int)).bind fun r_7 =>
      some (((TPathSum.mk r_7.Ins r_7.Vars (IntKind.i64.wrap (r_7.Root - 2)) r_7.Phase r_7.Terms r_7.Out), 1))) else (bif (b && ((Int.tmod c 4) == 2)) then ((F_impl_PathSum_stripped p (y : Int) (IntKind.i64.wrap (8 - c)) (z : Int)).bind fun r_8 =>
      (getI ([0, 0, 1, 0, 0, 0, 7] : List Int) c).bind fun x =>
      some (((TPathSum.mk r_8.Ins r_8.Vars (IntKind.i64.wrap (r_8.Root - 1)) (Int.tmod (IntKind.i64.wrap (r_8.Phase + x)) 8) r_8.Terms r_8.Out), 2))) else (
      bif ((b && ((Int.tmod c 4) == 0)) && (((z / 2 ^ I : Nat) : Int) != 0)) then ((F_impl_PathSum_stripped p (y : Int) 0 0).bind fun r_9 =>
      chk ((0 : Int) ≤ tz) <|
      (F_impl_dropped (bits .xor .i64 (z : Int) (shlK .i64 1 tz)) (y : Int)).bind fun r_10 =>
      ((bif (decide ((y : Int) < tz)) then (some (IntKind.i64.wrap (tz - 1))) else (some tz)) : Option (Int)).bind fun inner =>
      (F_impl_PathSum_substituted (TPathSum.mk r_9.Ins r_9.Vars (IntKind.i64.wrap (r_9.Root - 2)) r_9.Phase r_9.Terms r_9.Out) inner (TAffine.mk r_10 (IntKind.i64.wrap (Int.tdiv c 4)))).bind fun r_11 =>
      some ((r_11, 3))) else (some (((TPathSum.mk 0 0 0 0 [] []), 0)))))) := by
    unfold F_impl_PathSum_ruled
    rw [har]
    simp only [Option.bind_some]
    rw [hI, chk_t (by omega), h2I, hsm, an1, ucc, htz, Option.bind_some, chk_t (fun _ => by omega), shr_i z I (by omega)]
  rcases rr with ⟨rfl, rfl, rx, roff⟩ | ⟨rfl, rfl, rx⟩
  rotate_left
  · -- no rule
    left
    have hrule : F_spec_l21Rule p (y : Int) = some (0, 0, 0) := by
      unfold F_spec_l21Rule
      rw [chk_t (by omega), hsl]
      simp only [orR, Option.bind_some]
      rw [chk_t (by omega), rx]; rfl
    constructor
    · unfold F_spec_l21Step_l1
      rw [hnu, ps_w (a := (N : Int)) (by omega), lt1, cond_true, hrule]
      simp only [Option.bind_some, show ((0 : Int) == 0) = true from rfl, cond_true]
      rw [ps_w (by omega)]; rfl
    · unfold F_impl_ReduceStep_l1
      rw [hnu, ps_w (a := (N : Int)) (by omega), lt1, cond_true, hF, hru]
      simp only [Option.bind_some, cond_true, cond_false, Bool.not_true, Bool.false_and, orR, show ((0 : Int) == 0) = true from rfl]
      rw [ps_w (by omega)]; rfl
  obtain ⟨l, T, hst⟩ := strip_all hN hp hlen hy hiy hout
  have hV : IntKind.i64.wrap (p.Vars - 1) = p.Vars - 1 := ps_w (by omega)
  have hTl : T.length ≤ 16777216 := (hst.rl 0).tm.len
  have hdz : dr y z ≤ z := dr_le y z
  have hdr : F_spec_l21Drop (z : Int) (y : Int) = some ((dr y z : Nat) : Int) := drop_s (by omega) (by omega)
  have hrule : F_spec_l21Rule p (y : Int) = (bif ((c == 0) && ((z : Int) == 0)) then (some ((1, c, (z : Int)))) else (bif ((c == 2) || (c == 6)) then (some ((2, c, (z : Int)))) else (
      bif (((c == 0) || (c == 4)) && (decide (0 < ((z / 2 ^ I : Nat) : Int)))) then (some ((3, c, (z : Int)))) else (some ((0, 0, 0)))))) := by
    unfold F_spec_l21Rule
    rw [chk_t (by omega), hsl]
    simp only [orR, Option.bind_some]
    rw [chk_t (by omega), rx]
    simp only [orR, Option.bind_some]
    rw [hI, uI, chk_t (fun _ => by omega), shr_i z I (by omega)]
  obtain ⟨t42, t40⟩ := tm4 hc
  have hO5 : (p.Out.map (outD y)).length ≤ 5 := by rw [List.length_map]; exact houts
  have hsp := hst.sp
  rw [hV] at hsp
  by_cases hE : c = 0 ∧ z = 0
  · -- the variable is nowhere
    obtain ⟨rfl, rfl⟩ := hE
    have hT := hst.el (roff rfl)
    refine step_of hN hp hy hF (rule := 1) (out := TPathSum.mk p.Ins (p.Vars - 1) (IntKind.i64.wrap (p.Root - 2)) p.Phase T (p.Out.map (outD y))) rfl ?_ ?_ hTl hO5 (by simp only; omega)
    · rw [hru, without_eq (by omega) (by rw [hT, List.length_map] at hTl; omega) (by omega) (fun t ht => by
        have := (ps_tm hN hp).rng t ht
        exact ⟨t.Mask.toNat, by omega, by omega⟩) on, hV, hT]
      rfl
    · unfold F_spec_l21Step_l1
      rw [hnu, ps_w (a := (N : Int)) (by omega), lt1, cond_true, hrule]
      simp only [show ((0 : Int) == 0 && ((0 : Nat) : Int) == 0) = true from rfl, cond_true, Option.bind_some, show ((1 : Int) == 0) = false from rfl, cond_false, hsp, hdr, show ((1 : Int) == 1) = true from rfl]
  have hE1 : (c == 0 && (z : Int) == 0) = false := by rw [← Bool.not_eq_true]; simp only [Bool.and_eq_true, beq_iff_eq]; intro h; exact hE ⟨h.1, by omega⟩
  have hE2 : (!(c == 0 && z == 0)) = true := by rw [Bool.not_eq_true', ← Bool.not_eq_true]; simp only [Bool.and_eq_true, beq_iff_eq]; exact hE
  rw [hE2, t42, t40] at hru
  rw [hE1] at hrule
  simp only [Bool.not_true, cond_false, Bool.true_and] at hru hrule
  have chN : ∀ {α : Type} (a : Nat) (x : Option α), chk ((0 : Int) ≤ (a : Int)) x = x := fun a x => chk_t (by omega)
  by_cases hO : c = 2 ∨ c = 6
  · -- a quarter turn
    have hO1 : (c == 2 || c == 6) = true := by simpa using hO
    rw [hO1, cond_true] at hru hrule
    obtain ⟨k, x, hk, hx, hx2, hadd⟩ : ∃ k x : Int, IntKind.i64.wrap (8 - c) = k ∧ getI ([0, 0, 1, 0, 0, 0, 7] : List Int) c = some x ∧ (0 ≤ x ∧ x ≤ 7 ∧ -20 ≤ k ∧ k ≤ 20) ∧ ∀ (s : Tl21Sum) (a : TAffine), (((bif (c == 2) then ((F_spec_l21Sum_add s 0 1).bind fun m => (F_spec_l21Sum_times m 0 6 a).bind fun m1 => some (m1.phase, m1.terms)) else ((F_spec_l21Sum_add s 0 7).bind fun m2 => (F_spec_l21Sum_times m2 0 2 a).bind fun m3 => some (m3.phase, m3.terms))) : Option (Int × List TTerm)) = ((F_spec_l21Sum_add s 0 x).bind fun m => (F_spec_l21Sum_times m 0 k a).bind fun m1 => some (m1.phase, m1.terms))) := by
      rcases hO with rfl | rfl
      · exact ⟨6, 1, by decide, rfl, by decide, fun s a => rfl⟩
      · exact ⟨2, 7, by decide, rfl, by decide, fun s a => rfl⟩
    have hS : ∀ s ∈ setW z 32, s < 24 ∧ (2 ^ s).testBit y = false := fun s hs => ⟨setW_lt24 (by omega) hs, by
      rw [Nat.testBit_two_pow]
      refine decide_eq_false fun e => ?_
      have := (setW_mem32 (x := z) (by omega)).1 hs
      rw [e, hzy] at this; cases this⟩
    obtain ⟨ph', T', l', g1, g2, g3⟩ := rl_times (em_dr y) (hst.rl x) (rest := 0) (Nat.zero_testBit y) (by decide) (k := k) ⟨by omega, by omega⟩ (S := setW z 32) (a := TAffine.mk (z : Int) 0) (b := TAffine.mk ((dr y z : Nat) : Int) 0) hS (Nat.le_trans (setW_len z) (by decide)) (bitsOf_eq (by omega)) (by rw [setW_eq (by omega), setW_dr (by omega) hzy]) rfl
    rw [dr_zero] at g1
    obtain ⟨d1, d2⟩ := dr_terms g3
    have hmr := mgt_rng g3.mp 0
    refine step_of hN hp hy hF (rule := 2) (out := TPathSum.mk p.Ins (p.Vars - 1) (IntKind.i64.wrap (p.Root - 1)) ph' T' (p.Out.map (outD y))) rfl ?_ ?_ g3.tm.len hO5 (by simp only; omega)
    · rw [hru, hk, stripped_eq hN hp hlen hy hst g2 g3, Option.bind_some, hx, Option.bind_some, hV]
      simp only
      rw [k8' (by omega), d2]
    · unfold F_spec_l21Step_l1
      rw [hnu, ps_w (a := (N : Int)) (by omega), lt1, cond_true, hrule]
      simp only [Option.bind_some, show ((2 : Int) == 0) = false from rfl, cond_true, cond_false, hsp, hdr, show ((2 : Int) == 1) = false from rfl, show ((2 : Int) == 2) = true from rfl, hadd]
      rw [s_addz hph ⟨hx2.1, hx2.2.1⟩]
      simp only [Option.bind_some]
      rw [show ((0 : Nat) : Int) = 0 from rfl] at g1
      rw [g1]
      rfl
  have hO1 : (c == 2 || c == 6) = false := by rw [← Bool.not_eq_true]; simpa using hO
  rw [hO1, cond_false] at hru hrule
  obtain ⟨w, hw⟩ : ∃ w : Nat, w = z / 2 ^ I := ⟨_, rfl⟩
  rw [← hw] at hru hrule
  by_cases hH : (c = 0 ∨ c = 4) ∧ w ≠ 0
  rotate_left
  · -- no rule
    left
    have e1 : ((c == 0 || c == 4) && ((w : Int) != 0)) = false := by
      rw [← Bool.not_eq_true]; simp only [Bool.and_eq_true, Bool.or_eq_true, beq_iff_eq, bne_iff_ne]; intro h; exact hH ⟨h.1, by omega⟩
    have e2 : ((c == 0 || c == 4) && decide (0 < (w : Int))) = false := by
      rw [← Bool.not_eq_true]; simp only [Bool.and_eq_true, Bool.or_eq_true, beq_iff_eq, decide_eq_true_eq]; intro h; exact hH ⟨h.1, by omega⟩
    rw [e1, cond_false] at hru
    rw [e2, cond_false] at hrule
    constructor
    · unfold F_spec_l21Step_l1
      rw [hnu, ps_w (a := (N : Int)) (by omega), lt1, cond_true, hrule]
      simp only [Option.bind_some, show ((0 : Int) == 0) = true from rfl, cond_true]
      rw [ps_w (by omega)]; rfl
    · unfold F_impl_ReduceStep_l1
      rw [hnu, ps_w (a := (N : Int)) (by omega), lt1, cond_true, hF, hru]
      simp only [Option.bind_some, cond_true, cond_false, orR, show ((0 : Int) == 0) = true from rfl]
      rw [ps_w (by omega)]; rfl
  · -- two Hadamard gates
    obtain ⟨hcc, hzI⟩ := hH
    have e1 : ((c == 0 || c == 4) && ((w : Int) != 0)) = true := by
      simp only [Bool.and_eq_true, Bool.or_eq_true, beq_iff_eq, bne_iff_ne]; exact ⟨hcc, by omega⟩
    have e2 : ((c == 0 || c == 4) && decide (0 < (w : Int))) = true := by
      simp only [Bool.and_eq_true, Bool.or_eq_true, beq_iff_eq, decide_eq_true_eq]; exact ⟨hcc, by omega⟩
    rw [e1, cond_true] at hru
    rw [e2, cond_true] at hrule
    -- the lowest bit above the values
    have hcc0 : cc ≠ 0 := fun h0 => hzI (by
      rw [hw]
      apply Nat.eq_of_testBit_eq
      intro j
      rw [Nat.testBit_div_two_pow, Nat.zero_testBit]
      have := an3 (j + I)
      rw [h0, Nat.zero_testBit, Nat.testBit_two_pow_sub_one, decide_eq_false (show ¬ j + I < I by omega)] at this
      rw [Nat.add_comm]
      simpa [Nat.add_comm] using this.symm)
    obtain ⟨K, q, hcK, hK24, htK⟩ := tz_eq hcc0 (by omega)
    rw [htz] at htK
    obtain rfl := Option.some.inj htK
    have hKb := an3 K
    rw [hcK, low_test', Nat.testBit_two_pow_sub_one] at hKb
    have hKI : I ≤ K := by
      rcases Nat.lt_or_ge K I with h | h
      · rw [decide_eq_true h] at hKb; simp at hKb
      · exact h
    have hzK : z.testBit K = true := by
      rw [decide_eq_false (show ¬ K < I by omega)] at hKb; simpa using hKb.symm
    have hlow : ∀ j, I ≤ j → j < K → z.testBit j = false := fun j h1 h2 => by
      have h3 := an3 j
      have h4 : cc.testBit j = false := by
        cases h : cc.testBit j with
        | false => rfl
        | true => rw [hcK] at h; have := low_test j h; omega
      rw [h4, Nat.testBit_two_pow_sub_one, decide_eq_false (show ¬ j < I by omega)] at h3
      simpa using h3.symm
    have hKy : K ≠ y := fun e => by rw [e, hzy] at hzK; cases hzK
    have hKN : K < N := by
      rcases Nat.lt_or_ge K N with h | h
      · exact h
      · rw [Nat.testBit_lt_two_pow (Nat.lt_of_lt_of_le hz (Nat.pow_le_pow_right (by decide) h))] at hzK; cases hzK
    have hiy' : I ≤ y := by omega
    -- where it lies without the variable
    obtain ⟨V, hV0⟩ : ∃ V : Nat, V = if K < y then K else K - 1 := ⟨_, rfl⟩
    have hVI : I ≤ V := by rw [hV0]; split <;> omega
    have hVN : V < N - 1 := by rw [hV0]; split <;> omega
    have hzV : (dr y z).testBit V = true := by
      rw [dr_bit, hV0]
      by_cases h : K < y
      · rw [if_pos h, if_pos h]; exact hzK
      · rw [if_neg h, if_neg (by omega), show K - 1 + 1 = K by omega]; exact hzK
    have hlV : ∀ j, I ≤ j → j < V → (dr y z).testBit j = false := fun j h1 h2 => by
      rw [dr_bit]
      by_cases h : j < y
      · rw [if_pos h]; exact hlow j h1 (by rw [hV0] at h2; split at h2 <;> omega)
      · rw [if_neg h]; exact hlow (j + 1) (by omega) (by rw [hV0] at h2; split at h2 <;> omega)
    have hfirst : getI (cI (setW (dr y z / 2 ^ I) 32)) 0 = some ((V - I : Nat) : Int) := by
      refine first_set (Nat.lt_of_le_of_lt (Nat.div_le_self _ _) (by omega)) ?_ (fun j hj => ?_)
      · rw [Nat.testBit_div_two_pow, show V - I + I = V by omega]; exact hzV
      · rw [Nat.testBit_div_two_pow]; exact hlV (j + I) (by omega) (by omega)
    have h2K : 2 ^ K < 16777216 := two24 hK24
    have h2V : 2 ^ V < 16777216 := two24 (by omega)
    have hzx : z ^^^ 2 ^ K < 16777216 := xor24 (by omega) h2K
    have hdx : dr y (z ^^^ 2 ^ K) = dr y z ^^^ 2 ^ V := by rw [dr_xor, dr_two y K hKy, hV0]
    have hzN : dr y z < 2 ^ (N - 1) := dr_lt hy hz
    have hbN : dr y z ^^^ 2 ^ V < 2 ^ (N - 1) := Nat.xor_lt_two_pow hzN (Nat.pow_lt_pow_right (by decide) hVN)
    have hbv : (dr y z ^^^ 2 ^ V).testBit V = false := xor_bit hzV
    obtain ⟨r, r1, r2, r3, r4, r5⟩ := sub_both (by omega) (hst.ps (IntKind.i64.wrap (p.Root - 2))) (by simp only; omega) (v := V) (b := dr y z ^^^ 2 ^ V) hVN hbN hbv (bt := IntKind.i64.wrap (Int.tdiv c 4))
    have hinner : ((bif (decide ((y : Int) < (K : Int))) then (some (IntKind.i64.wrap ((K : Int) - 1))) else (some (K : Int))) : Option (Int)) = some (V : Int) := by
      rw [hV0]
      by_cases h : K < y
      · rw [decide_eq_false (by omega), if_pos h]; rfl
      · rw [decide_eq_true (show (y : Int) < (K : Int) by omega), if_neg h, cond_true, ps_w (by omega)]
        congr 1; omega
    have hvw : IntKind.i64.wrap (p.Vars - 1 - 1) = p.Vars - 2 := by rw [ps_w (by omega)]; omega
    simp only at r5
    rw [hvw] at r5
    refine step_of hN hp hy hF (rule := 3) (out := r) rfl ?_ ?_ r3 r4 (by omega)
    · have hr0 := hst.rl 0
      obtain ⟨_, d2⟩ := dr_terms hr0
      have hmr := mgt_rng hr0.mp 0
      rw [hru, stripped_eq hN hp hlen hy hst (expand_zero l 0) hr0, Option.bind_some, chN, (ps_shl1 (v := K) (by omega)).1, xor_i (by omega) (by omega), drop_i (by omega) (by omega), Option.bind_some, hinner, Option.bind_some, hV, hdx, show mgt l 0 0 = p.Phase by omega]
      simp only
      rw [r2]
      rfl
    · unfold F_spec_l21Step_l1
      rw [hnu, ps_w (a := (N : Int)) (by omega), lt1, cond_true, hrule]
      simp only [Option.bind_some, show ((3 : Int) == 0) = false from rfl, cond_true, cond_false, hsp, hdr, show ((3 : Int) == 1) = false from rfl, show ((3 : Int) == 2) = false from rfl, hI, uI, chN]
      rw [shr_i (dr y z) I (by omega), setW_eq (Nat.lt_of_le_of_lt (Nat.div_le_self _ _) (by omega))]
      simp only [Option.bind_some, hfirst]
      rw [show IntKind.i64.wrap (((V - I : Nat) : Int) + (I : Int)) = (V : Int) by rw [ps_w (by omega)]; omega, wrapU (show V < 18446744073709551616 by omega), chN, (ps_shl1 (v := V) (by omega)).1, xor_i (by omega) (by omega), ← hI, r1]
      rfl

def psZ : TPathSum := TPathSum.mk 0 0 0 0 [] []
theorem step_end {p : TPathSum} {N : Nat} (hN : N ≤ 24) (hp : PsOk p N) : F_spec_l21Step_l1 p (N : Int) = some (.br (N : Int)) ∧ F_impl_ReduceStep_l1 p (N : Int) = some (.br (N : Int)) := by
  have hnu := hp.num
  constructor
  · unfold F_spec_l21Step_l1
    rw [hnu, ps_w (by omega), decide_eq_false (by omega), cond_false]
  · unfold F_impl_ReduceStep_l1
    rw [hnu, ps_w (by omega), decide_eq_false (by omega), cond_false]
theorem step_wh {p : TPathSum} {N : Nat} (hN : N ≤ 24) (hp : PsOk p N) (hlen : p.Terms.length ≤ 1099511627776) : ∀ (d y q : Nat), y + d = N → p.Ins ≤ (y : Int) → d < q →
    (whX (F_spec_l21Step_l1 p) q (y : Int) = some (.inl (N : Int)) ∧ whX (F_impl_ReduceStep_l1 p) q (y : Int) = some (.inl (N : Int))) ∨
      ∃ out rule b, whX (F_spec_l21Step_l1 p) q (y : Int) = some (.inr (out, rule, true)) ∧ F_spec_l21Valid out = some b ∧ whX (F_impl_ReduceStep_l1 p) q (y : Int) = some (.inr (if b = true then (out, rule, true) else (psZ, 0, false))) ∧ out.Terms.length ≤ 16777216 ∧ out.Out.length ≤ 5 ∧ out.Vars < p.Vars := by
  intro d
  induction d with
  | zero =>
    intro y q hy hi hq
    obtain ⟨q, rfl⟩ : ∃ q', q = q' + 1 := ⟨q - 1, by omega⟩
    obtain ⟨e1, e2⟩ := step_end hN hp
    have : y = N := by omega
    subst this
    left
    simp only [whX, e1, e2, Option.bind_some]
    exact ⟨trivial, trivial⟩
  | succ d ih =>
    intro y q hy hi hq
    obtain ⟨q, rfl⟩ : ∃ q', q = q' + 1 := ⟨q - 1, by omega⟩
    rcases step_y hN hp hlen (y := y) (by omega) hi with ⟨e1, e2⟩ | ⟨out, rule, b, e1, e2, e3, e4⟩
    · simp only [whX, e1, e2, Option.bind_some]
      exact ih (y + 1) q (by omega) (by omega) (by omega)
    · right
      refine ⟨out, rule, b, ?_, e2, ?_, e4⟩
      · simp only [whX, e1, Option.bind_some]
      · simp only [whX, e3, Option.bind_some]
        rfl
theorem step_both {p : TPathSum} {N : Nat} (hN : N ≤ 24) (hp : PsOk p N) (hlen : p.Terms.length ≤ 1099511627776) (hv : F_impl_IsValidPathSum p = some true) :
    (F_spec_l21Step p = some (psZ, 0, false) ∧ F_impl_ReduceStep p = some (psZ, 0, false)) ∨
      ∃ out rule b, F_spec_l21Step p = some (out, rule, true) ∧ F_spec_l21Valid out = some b ∧ F_impl_ReduceStep p = some (if b = true then (out, rule, true) else (psZ, 0, false)) ∧ out.Terms.length ≤ 16777216 ∧ out.Out.length ≤ 5 ∧ out.Vars < p.Vars := by
  have hin := hp.ins; have hva := hp.vars; have hnu := hp.num
  obtain ⟨I, hI⟩ : ∃ I : Nat, p.Ins = (I : Int) := ⟨p.Ins.toNat, by omega⟩
  have h := step_wh hN hp hlen (N - I) I fuel (by omega) (by omega) (fuelB (by omega))
  rw [← hI] at h
  unfold F_spec_l21Step F_impl_ReduceStep
  rw [hv]
  simp only [Option.bind_some, Bool.not_true, cond_false]
  rcases h with ⟨e1, e2⟩ | ⟨out, rule, b, e1, e2, e3, e4⟩
  · left
    rw [e1, e2]; exact ⟨rfl, rfl⟩
  · right
    refine ⟨out, rule, b, by rw [e1]; rfl, e2, by rw [e3]; rfl, e4⟩
/-- Step by step to the end. -/
theorem red_wh : ∀ (q : Nat) (p : TPathSum) (N n : Nat), N ≤ 24 → PsOk p N → p.Terms.length ≤ 1099511627776 → F_impl_IsValidPathSum p = some true → p.Vars < (q : Int) → p.Vars + (n : Int) ≤ 1000 →
    ∃ out k, whX F_spec_l21Reduce_l1 q (p.Ins, p.Vars, p.Root, p.Phase, p.Terms, p.Out, (n : Int)) = some (.inr (out, k)) ∧ whX F_impl_ReducePathSum_l1 q (p.Ins, p.Vars, p.Root, p.Phase, p.Terms, p.Out, (n : Int)) = some (.inr (out, k, true)) ∧ out.Terms.length ≤ 1099511627776 ∧ out.Out.length ≤ 5
  | 0, p, N, n, _, hp, _, _, hq, _ => by have := hp.vars; omega
  | q + 1, p, N, n, hN, hp, hlen, hv, hq, hn => by
    have houts : p.Out.length ≤ 5 := by have := hp.out; have := hp.ins; omega
    have hva := hp.vars
    have stop : F_spec_l21Reduce_l1 (p.Ins, p.Vars, p.Root, p.Phase, p.Terms, p.Out, (n : Int)) = some (.rt (p, (n : Int))) → F_impl_ReducePathSum_l1 (p.Ins, p.Vars, p.Root, p.Phase, p.Terms, p.Out, (n : Int)) = some (.rt (p, (n : Int), true)) → ∃ out k, whX F_spec_l21Reduce_l1 (q + 1) (p.Ins, p.Vars, p.Root, p.Phase, p.Terms, p.Out, (n : Int)) = some (.inr (out, k)) ∧ whX F_impl_ReducePathSum_l1 (q + 1) (p.Ins, p.Vars, p.Root, p.Phase, p.Terms, p.Out, (n : Int)) = some (.inr (out, k, true)) ∧ out.Terms.length ≤ 1099511627776 ∧ out.Out.length ≤ 5 := fun h1 h2 => by
      refine ⟨p, (n : Int), ?_, ?_, hlen, houts⟩
      · simp only [whX, h1, Option.bind_some]
      · simp only [whX, h2, Option.bind_some]
    rcases step_both hN hp hlen hv with ⟨e1, e2⟩ | ⟨out, rule, b, e1, e2, e3, e4, e5, e6⟩
    · refine stop ?_ ?_
      · unfold F_spec_l21Reduce_l1
        simp only
        rw [show TPathSum.mk p.Ins p.Vars p.Root p.Phase p.Terms p.Out = p from rfl, e1]; rfl
      · unfold F_impl_ReducePathSum_l1
        simp only
        rw [show TPathSum.mk p.Ins p.Vars p.Root p.Phase p.Terms p.Out = p from rfl, e2]; rfl
    · cases b with
      | false =>
        refine stop ?_ ?_
        · unfold F_spec_l21Reduce_l1
          simp only
          rw [show TPathSum.mk p.Ins p.Vars p.Root p.Phase p.Terms p.Out = p from rfl, e1]
          simp only [Option.bind_some, Bool.not_true, Bool.not_false, gb_t rfl, e2]
          rfl
        · unfold F_impl_ReducePathSum_l1
          simp only
          rw [show TPathSum.mk p.Ins p.Vars p.Root p.Phase p.Terms p.Out = p from rfl, e3]; rfl
      | true =>
        obtain ⟨b', v1, v2, v3⟩ := ps_valid (p := out) (by omega) (by omega)
        rw [e2] at v1
        obtain rfl := Option.some.inj v1
        obtain ⟨N', hN', hp'⟩ := v3 rfl
        have h1 : F_spec_l21Reduce_l1 (p.Ins, p.Vars, p.Root, p.Phase, p.Terms, p.Out, (n : Int)) = some (.nx (out.Ins, out.Vars, out.Root, out.Phase, out.Terms, out.Out, ((n + 1 : Nat) : Int))) := by
          unfold F_spec_l21Reduce_l1
          simp only
          rw [show TPathSum.mk p.Ins p.Vars p.Root p.Phase p.Terms p.Out = p from rfl, e1]
          simp only [Option.bind_some, Bool.not_true, Bool.not_false, gb_t rfl, e2, Bool.or_false, cond_false]
          rw [ps_w (by omega)]; rfl
        have h2 : F_impl_ReducePathSum_l1 (p.Ins, p.Vars, p.Root, p.Phase, p.Terms, p.Out, (n : Int)) = some (.nx (out.Ins, out.Vars, out.Root, out.Phase, out.Terms, out.Out, ((n + 1 : Nat) : Int))) := by
          unfold F_impl_ReducePathSum_l1
          simp only
          rw [show TPathSum.mk p.Ins p.Vars p.Root p.Phase p.Terms p.Out = p from rfl, e3]
          simp only [if_true, Option.bind_some, Bool.not_true, cond_false]
          rw [ps_w (by omega)]; rfl
        obtain ⟨o, k, g1, g2, g3⟩ := red_wh q out N' (n + 1) hN' hp' (by omega) v2 (by omega) (by omega)
        refine ⟨o, k, ?_, ?_, g3⟩
        · simp only [whX, h1, Option.bind_some]; exact g1
        · simp only [whX, h2, Option.bind_some]; exact g2

theorem wn_succ {k : Int} (h0 : 0 ≤ k) (h : k + 1 ≤ 9223372036854775807) : IntKind.i64.wrap (k + 1) = k + 1 := wrap_i64 ⟨by omega, by omega⟩
theorem to_TermS (a : List TTerm) (h : a.length ≤ 1099511627776) : F_laws_toTermS a = some a := by
  unfold F_laws_toTermS
  rw [chk_t (by omega), chk_t (by omega), forN_fill (a := a) (by simp) (fun i out x hx ho => ?_)]
  · rfl
  · have hi := (List.getElem?_eq_some_iff.1 hx).1
    unfold F_laws_toTermS_l1 F_laws_toTerm
    simp [getI_nat, hx, List.getElem?_eq_getElem (show i < out.length by omega)]
theorem sz_TermS (a : List TTerm) (left : Int) (h : 0 ≤ left ∧ left ≤ 1048576) (ha : a.length ≤ 9223372036854775807) :
    (∃ s, F_laws_szTermS a left = some s ∧ (0 ≤ s ∧ s ≤ 1048576) ∧ a.length ≤ 1048576) ∨ ∃ s, F_laws_szTermS a left = some s ∧ s < 0 := by
  unfold F_laws_szTermS
  rw [wrap_i64 (a := left - (a.length : Int)) ⟨by omega, by omega⟩]
  by_cases hs : left - (a.length : Int) < 0
  · rw [decide_eq_true hs]; exact .inr ⟨_, rfl, by decide⟩
  · rw [decide_eq_false hs]; exact .inl ⟨_, rfl, ⟨by omega, by omega⟩, by omega⟩
theorem eqr_TermS (a : List TTerm) (h : a.length ≤ 1099511627776) : F_laws_eqTermS a a = some true := by
  unfold F_laws_eqTermS
  simp only [bne_self_eq_false, cond_false]
  rw [chk_t (by omega), forX_pass (fun i hi => ?_)]
  · simp [orR]
  · unfold F_laws_eqTermS_l1 F_laws_eqTerm
    simp [getI_nat, List.getElem?_eq_getElem hi]
theorem mk_TermS (a : List TTerm) (k : Int) (h0 : 0 ≤ k) (h : k ≤ 1152921504606846976) (ha : a.length ≤ 1099511627776) : ∃ m, F_laws_markTermS a k = some (k + a.length * 2, m) ∧ F_laws_heldTermS m k = some (k + a.length * 2) := by
  obtain ⟨m, h1, hl, h2⟩ := mark_held (mk := fun (x : TTerm) k => TTerm.mk k (IntKind.i64.wrap (k + 1))) (nx := fun k => (IntKind.i64.wrap ((IntKind.i64.wrap (k + 1)) + 1)))
    (f := F_laws_markTermS_l1) (g := F_laws_heldTermS_l1)
    (fun i m k x hx => by unfold F_laws_markTermS_l1; simp [getI_nat, hx]) (fun m i k x hx => by unfold F_laws_heldTermS_l1; simp [getI_nat, hx]) a k
  have hn := iter_add (c := 2) (nx := fun k => (IntKind.i64.wrap ((IntKind.i64.wrap (k + 1)) + 1))) (by omega) (fun k hk hk' => by simp (disch := omega) only [wn_succ] <;> omega) a.length k h0 (by omega)
  refine ⟨m, ?_, ?_⟩
  · unfold F_laws_markTermS; rw [chk_t (by omega), h1, hn]; rfl
  · unfold F_laws_heldTermS; rw [chk_t (by omega), h2, hn]; rfl
theorem to_AffineS (a : List TAffine) (h : a.length ≤ 1099511627776) : F_laws_toAffineS a = some a := by
  unfold F_laws_toAffineS
  rw [chk_t (by omega), chk_t (by omega), forN_fill (a := a) (by simp) (fun i out x hx ho => ?_)]
  · rfl
  · have hi := (List.getElem?_eq_some_iff.1 hx).1
    unfold F_laws_toAffineS_l1 F_laws_toAffine
    simp [getI_nat, hx, List.getElem?_eq_getElem (show i < out.length by omega)]
theorem sz_AffineS (a : List TAffine) (left : Int) (h : 0 ≤ left ∧ left ≤ 1048576) (ha : a.length ≤ 9223372036854775807) :
    (∃ s, F_laws_szAffineS a left = some s ∧ (0 ≤ s ∧ s ≤ 1048576) ∧ a.length ≤ 1048576) ∨ ∃ s, F_laws_szAffineS a left = some s ∧ s < 0 := by
  unfold F_laws_szAffineS
  rw [wrap_i64 (a := left - (a.length : Int)) ⟨by omega, by omega⟩]
  by_cases hs : left - (a.length : Int) < 0
  · rw [decide_eq_true hs]; exact .inr ⟨_, rfl, by decide⟩
  · rw [decide_eq_false hs]; exact .inl ⟨_, rfl, ⟨by omega, by omega⟩, by omega⟩
theorem eqr_AffineS (a : List TAffine) (h : a.length ≤ 1099511627776) : F_laws_eqAffineS a a = some true := by
  unfold F_laws_eqAffineS
  simp only [bne_self_eq_false, cond_false]
  rw [chk_t (by omega), forX_pass (fun i hi => ?_)]
  · simp [orR]
  · unfold F_laws_eqAffineS_l1 F_laws_eqAffine
    simp [getI_nat, List.getElem?_eq_getElem hi]
theorem mk_AffineS (a : List TAffine) (k : Int) (h0 : 0 ≤ k) (h : k ≤ 1152921504606846976) (ha : a.length ≤ 1099511627776) : ∃ m, F_laws_markAffineS a k = some (k + a.length * 2, m) ∧ F_laws_heldAffineS m k = some (k + a.length * 2) := by
  obtain ⟨m, h1, hl, h2⟩ := mark_held (mk := fun (x : TAffine) k => TAffine.mk k (IntKind.i64.wrap (k + 1))) (nx := fun k => (IntKind.i64.wrap ((IntKind.i64.wrap (k + 1)) + 1)))
    (f := F_laws_markAffineS_l1) (g := F_laws_heldAffineS_l1)
    (fun i m k x hx => by unfold F_laws_markAffineS_l1; simp [getI_nat, hx]) (fun m i k x hx => by unfold F_laws_heldAffineS_l1; simp [getI_nat, hx]) a k
  have hn := iter_add (c := 2) (nx := fun k => (IntKind.i64.wrap ((IntKind.i64.wrap (k + 1)) + 1))) (by omega) (fun k hk hk' => by simp (disch := omega) only [wn_succ] <;> omega) a.length k h0 (by omega)
  refine ⟨m, ?_, ?_⟩
  · unfold F_laws_markAffineS; rw [chk_t (by omega), h1, hn]; rfl
  · unfold F_laws_heldAffineS; rw [chk_t (by omega), h2, hn]; rfl
theorem to_PathSum (a : TPathSum) (h0 : a.Terms.length ≤ 1099511627776) (h1 : a.Out.length ≤ 1099511627776) : F_laws_toPathSum a = some a := by
  unfold F_laws_toPathSum; simp only [to_TermS a.Terms h0, to_AffineS a.Out h1, Option.bind_some]
theorem eqr_PathSum (a : TPathSum) (h0 : a.Terms.length ≤ 1099511627776) (h1 : a.Out.length ≤ 1099511627776) : F_laws_eqPathSum a a = some true := by
  unfold F_laws_eqPathSum; simp [eqr_TermS a.Terms h0, eqr_AffineS a.Out h1]
theorem sz_PathSum (a : TPathSum) (left : Int) (h : 0 ≤ left ∧ left ≤ 1048576) (h0 : a.Terms.length ≤ 9223372036854775807) (h1 : a.Out.length ≤ 9223372036854775807) :
    (∃ s, F_laws_szPathSum a left = some s ∧ (0 ≤ s ∧ s ≤ 1048576) ∧ a.Terms.length ≤ 1048576 ∧ a.Out.length ≤ 1048576) ∨ ∃ s, F_laws_szPathSum a left = some s ∧ s < 0 := by
  unfold F_laws_szPathSum
  rcases sz_TermS a.Terms left h h0 with ⟨s0, e0, b0, t0_0⟩ | ⟨s0, e0, b0⟩
  rotate_left
  · exact .inr ⟨_, by rw [e0]; simp only [Option.bind_some, decide_eq_true b0, cond_true]; first | rfl | skip, by decide⟩
  rw [e0]
  simp only [Option.bind_some, decide_eq_false (show ¬ s0 < 0 by omega), cond_false]
  rcases sz_AffineS a.Out s0 b0 h1 with ⟨s1, e1, b1, t1_0⟩ | ⟨s1, e1, b1⟩
  rotate_left
  · exact .inr ⟨_, by rw [e1]; simp only [Option.bind_some, decide_eq_true b1, cond_true]; first | rfl | skip, by decide⟩
  rw [e1]
  simp only [Option.bind_some, decide_eq_false (show ¬ s1 < 0 by omega), cond_false]
  exact .inl ⟨_, rfl, b1, t0_0, t1_0⟩
theorem mk_PathSum (a : TPathSum) (k : Int) (h0' : 0 ≤ k) (h : k ≤ 1125899906842624) (h0 : a.Terms.length ≤ 1099511627776) (h1 : a.Out.length ≤ 1099511627776) : ∃ m0 m1, F_laws_markPathSum a k = some (k + a.Terms.length * 2 + a.Out.length * 2, m0, m1) ∧ F_laws_heldPathSum (TPathSum.mk a.Ins a.Vars a.Root a.Phase m0 m1) k = some (k + a.Terms.length * 2 + a.Out.length * 2) := by
  obtain ⟨m0, e0, g0⟩ := mk_TermS a.Terms (k) (by omega) (by omega) h0
  obtain ⟨m1, e1, g1⟩ := mk_AffineS a.Out (k + a.Terms.length * 2) (by omega) (by omega) h1
  refine ⟨m0, m1, ?_, ?_⟩
  · unfold F_laws_markPathSum; simp only [e0, e1, Option.bind_some]
  · unfold F_laws_heldPathSum; simp only
    rw [g0]; simp only [Option.bind_some]
    rw [show decide (k + (a.Terms.length : Int) * 2 < 0) = false from decide_eq_false (by omega)]; simp only [cond_false]
    rw [g1]; simp only [Option.bind_some]
    rw [show decide (k + (a.Terms.length : Int) * 2 + (a.Out.length : Int) * 2 < 0) = false from decide_eq_false (by omega)]; simp only [cond_false]
/-- The law, where the two answer alike. -/
theorem law_of (a0 : TPathSum) (ok0 : ok_PathSum a0) (hb : a0.Terms.length ≤ 1048576 → a0.Out.length ≤ 1048576 → ∃ (r0 : TPathSum) (r1 : Int) (r2 : Bool), F_spec_ReducePathSum a0 = some (r0, r1, r2) ∧ F_impl_ReducePathSum a0 = some (r0, r1, r2) ∧ r0.Terms.length ≤ 1099511627776 ∧ r0.Out.length ≤ 1099511627776) : F_laws_FnExactReducePathSum a0 = some true := by
  unfold F_laws_FnExactReducePathSum
  rcases sz_PathSum a0 1048576 ⟨by decide, by decide⟩ ok0.2.2.2.2.1.1 ok0.2.2.2.2.2.1 with ⟨s0, e0, b0, t0_0, t0_1⟩ | ⟨s0, e0, b0⟩
  rotate_left
  · simp only [e0, Option.bind_some, decide_eq_true b0, cond_true]
  obtain ⟨r0, r1, r2, hs, hi, m0, m1⟩ := hb t0_0 t0_1
  obtain ⟨ka0, ma0_0, ma0_1, fa0, ga0⟩ : ∃ k' ma0_0 ma0_1, F_laws_markPathSum a0 (1) = some (k', ma0_0, ma0_1) ∧ 0 ≤ k' ∧ k' ≤ 1 + 35184372088832 := by
    obtain ⟨ma0_0, ma0_1, e, _⟩ := mk_PathSum a0 (1) (by omega) (by omega) (by omega) (by omega)
    exact ⟨_, ma0_0, ma0_1, e, by omega, by omega⟩
  obtain ⟨kr0, mr0_0, mr0_1, fr0, gr0, hr0⟩ : ∃ k' mr0_0 mr0_1, F_laws_markPathSum r0 (1) = some (k', mr0_0, mr0_1) ∧ F_laws_heldPathSum (TPathSum.mk r0.Ins r0.Vars r0.Root r0.Phase mr0_0 mr0_1) (1) = some k' ∧ (0 ≤ k' ∧ k' ≤ 1 + 35184372088832) := by
    obtain ⟨mr0_0, mr0_1, e, g⟩ := mk_PathSum r0 (1) (by omega) (by omega) m0 m1
    exact ⟨_, mr0_0, mr0_1, e, g, by omega, by omega⟩
  simp only [e0, decide_eq_false (show ¬ s0 < 0 by omega), cond_false, Option.bind_some, to_PathSum a0 (by omega) (by omega), eqr_PathSum a0 (by omega) (by omega), fa0, decide_eq_false (show ¬ ka0 < 0 by omega), hs, hi, eqr_PathSum r0 m0 m1, fr0, gr0, decide_eq_false (show ¬ kr0 < 0 by omega), cond_true, gb, Bool.not_true, Bool.not_false, Bool.or_false, Bool.false_or, Bool.or_self, beq_self_eq_true, bne_self_eq_false]
theorem law_FnExactReducePathSum (a0 : TPathSum) (ok0 : ok_PathSum a0) : F_laws_FnExactReducePathSum a0 = some true := by
  refine law_of a0 ok0 (fun h0 h1 => ?_)
  obtain ⟨bv, v1, v2, v3⟩ := ps_valid (p := a0) (by omega) (by omega)
  unfold F_spec_ReducePathSum F_impl_ReducePathSum
  rw [v1, v2]
  cases bv with
  | false => exact ⟨psZ, 0, false, rfl, rfl, by decide, by decide⟩
  | true =>
    obtain ⟨N, hN, hp⟩ := v3 rfl
    have hva := hp.vars; have hin := hp.ins
    have hf : a0.Vars < ((fuel : Nat) : Int) := by have := fuelB (n := 1000) (by decide); omega
    obtain ⟨out, k, e1, e2, e3, e4⟩ := red_wh fuel a0 N 0 hN hp (by omega) v2 hf (by omega)
    rw [show ((0 : Nat) : Int) = 0 from rfl] at e1 e2
    refine ⟨out, k, true, ?_, ?_, by omega, by omega⟩
    · simp only [Option.bind_some, Bool.not_true, cond_false]
      unfold F_spec_l21Reduce
      rw [e1]
      simp only [orR, Option.bind_some]
      unfold F_spec_l21Own
      rw [chk_t (by omega), chk_t (by omega)]
      rfl
    · simp only [Option.bind_some, Bool.not_true, cond_false]
      unfold F_slices_Clone_impl_Term_impl_Term F_slices_Clone_impl_Affine_impl_Affine
      rw [chk_t (by omega), Option.bind_some, chk_t (by omega), Option.bind_some, e2]
      rfl
end Go.VK
