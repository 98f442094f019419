/- The plain law of FnExactNormalizeClifford: what its Lean function answers, for all arguments. -/
import Derived.Test.YtgacclcoghlhmaaNormalizeCliffordFn
import Derived.Test.YtgacclcoghlhmaaLibI
set_option maxRecDepth 10000
set_option maxHeartbeats 1000000
set_option linter.unusedSimpArgs false
set_option linter.unusedVariables false
namespace Go.VK
theorem wr {a : Int} (h : -9000000000000000000 ≤ a ∧ a ≤ 9000000000000000000) : IntKind.i64.wrap a = a := wrap_i64 ⟨by omega, by omega⟩
/-- What the specification holds (z, and its flag b') beside the number o (or none): the flag before is b; once it is set, it stays. -/
def SR {α : Type} (G : α → Prop) (o : Option α) (b : Bool) (z : α) (b' : Bool) : Prop := G z ∧ (b = true → b' = true) ∧ (b = false → (o = some z ∧ b' = false) ∨ (o = none ∧ b' = true))
theorem SR.bind {α β : Type} {G : α → Prop} {G' : β → Prop} {o : Option α} {o' : α → Option β} {b b' b'' : Bool} {z : α} {z' : β} (h1 : SR G o b z b') (h2 : SR G' (o' z) b' z' b'') : SR G' (o.bind o') b z' b'' := by
 refine ⟨h2.1, fun h => h2.2.1 (h1.2.1 h), fun h => ?_⟩
 rcases h1.2.2 h with ⟨rfl, rfl⟩ | ⟨rfl, rfl⟩
 ·exact h2.2.2 rfl
 ·exact .inr ⟨rfl, h2.2.1 rfl⟩
theorem SR.map {α β : Type} {G : α → Prop} {G' : β → Prop} {o : Option α} {b b' : Bool} {z : α} (h : SR G o b z b') (g : α → β) (hg : G z → G' (g z)) : SR G' (o.map g) b (g z) b' := by
 refine ⟨hg h.1, h.2.1, fun hb => ?_⟩
 rcases h.2.2 hb with ⟨rfl, h2⟩ | ⟨rfl, h2⟩
 ·exact .inl ⟨rfl, h2⟩
 ·exact .inr ⟨rfl, h2⟩
theorem ix_lt {R C i j : Nat} (hi : i < R) (hj : j < C) : i * C + j < R * C := by
 have : (i + 1) * C ≤ R * C := Nat.mul_le_mul_right _ hi
 rw [Nat.add_mul] at this; omega
theorem ix {R C i j : Nat} (hi : i < R) (hj : j < C) (hR : R ≤ 32) (hC : C ≤ 32) : IntKind.i64.wrap (IntKind.i64.wrap ((i : Int) * (C : Int)) + (j : Int)) = ((i * C + j : Nat) : Int) := by
 have h1 := ix_lt hi hj
 have h2 : R * C ≤ 32 * 32 := Nat.mul_le_mul hR hC
 have e : (i : Int) * (C : Int) = ((i * C : Nat) : Int) := by push_cast; rfl
 rw [e, wr (a := ((i * C : Nat) : Int)) (by omega), wr (by omega)]
 omega
/-- The rows of a map over n wires, each a number below N. -/
def RowsOk (n N : Nat) (R : List Int) : Prop := R.length = n ∧ ∀ x ∈ R, 0 ≤ x ∧ x < N
theorem RowsOk.set {n N : Nat} {R : List Int} (h : RowsOk n N R) (i : Nat) {x : Nat} (hx : x < N) : RowsOk n N (R.set i (x : Int)) :=
 ⟨by rw [List.length_set]; exact h.1, fun y hy => by
  rcases List.mem_or_eq_of_mem_set hy with hy | rfl
  ·exact h.2 y hy
  ·omega⟩
theorem fuelB {n : Nat} (h : n < 18446744073709551616) : n < fuel := h
theorem xx (a b : Nat) : a ^^^ b ^^^ b = a := by rw [Nat.xor_assoc, Nat.xor_self, Nat.xor_zero]
theorem wrapU {a : Nat} (h : a < 18446744073709551616) : IntKind.u64.wrap (a : Int) = (a : Int) := by
 simp [IntKind.wrap, IntKind.signed, IntKind.bits]
 omega
theorem shr_i (x k : Nat) (hk : k ≤ 64) : shrK .i64 (x : Int) (k : Int) = ((x / 2 ^ k : Nat) : Int) := by
 unfold shrK
 rw [Int.toNat_natCast, Nat.min_eq_left (show k ≤ IntKind.bits .i64 from hk), Int.ofNat_fdiv]
 simp
theorem and_i {a b : Nat} (ha : a < 9223372036854775808) (hb : b < 9223372036854775808) : bits .and .i64 (a : Int) (b : Int) = ((a &&& b : Nat) : Int) := by
 have h1 : a &&& b ≤ a := Nat.and_le_left
 show IntKind.i64.wrap ((BitVec.ofInt 64 (a : Int) &&& BitVec.ofInt 64 (b : Int)).toNat : Int) = _
 have e1 : BitVec.ofInt 64 (a : Int) = BitVec.ofNat 64 a := rfl
 have e2 : BitVec.ofInt 64 (b : Int) = BitVec.ofNat 64 b := rfl
 rw [e1, e2, BitVec.toNat_and, BitVec.toNat_ofNat, BitVec.toNat_ofNat, Nat.mod_eq_of_lt (by omega), Nat.mod_eq_of_lt (by omega)]
 exact wrap_i64 ⟨by omega, by omega⟩
def a4 (d : Nat) : Nat := (d / 2 &&& 5) + (d &&& 5)
def b4 (d : Nat) : Nat := (d / 4 &&& 3) + (d &&& 3)
def c4 (d : Nat) : Nat := b4 (a4 d)
theorem xor_i {a b : Nat} (ha : a < 9223372036854775808) (hb : b < 9223372036854775808) : bits .xor .i64 (a : Int) (b : Int) = ((a ^^^ b : Nat) : Int) := by
 have h1 : a ^^^ b < 2 ^ 63 := Nat.xor_lt_two_pow ha hb
 show IntKind.i64.wrap ((BitVec.ofInt 64 (a : Int) ^^^ BitVec.ofInt 64 (b : Int)).toNat : Int) = _
 have e1 : BitVec.ofInt 64 (a : Int) = BitVec.ofNat 64 a := rfl
 have e2 : BitVec.ofInt 64 (b : Int) = BitVec.ofNat 64 b := rfl
 rw [e1, e2, BitVec.toNat_xor, BitVec.toNat_ofNat, BitVec.toNat_ofNat, Nat.mod_eq_of_lt (by omega), Nat.mod_eq_of_lt (by omega)]
 exact wrap_i64 ⟨by omega, by omega⟩
theorem shl_i {x k : Nat} (hk : k ≤ 60) (h : x * 2 ^ k < 9223372036854775808) : shlK .i64 (x : Int) (k : Int) = ((x * 2 ^ k : Nat) : Int) := by
 unfold shlK
 rw [Int.toNat_natCast, Nat.min_eq_left (show k ≤ IntKind.bits .i64 from by show k ≤ 64; omega)]
 have : (x : Int) * 2 ^ k = ((x * 2 ^ k : Nat) : Int) := by push_cast; rfl
 rw [this]
 exact wrap_i64 ⟨by omega, by omega⟩
def bitZ (x q : Nat) : Int := if x.testBit q then 1 else 0
def pc5 (x : Nat) : Int := bitZ x 0 + bitZ x 1 + bitZ x 2 + bitZ x 3 + bitZ x 4
theorem ones5 : ∀ x : Fin 32, F_math_bits_OnesCount (x.val : Int) = some (pc5 x.val) := by decide +kernel
theorem pc5_b (x : Nat) : 0 ≤ pc5 x ∧ pc5 x ≤ 5 := by
 unfold pc5 bitZ
 refine ⟨?_, ?_⟩ <;> (split <;> split <;> split <;> split <;> split <;> decide)
/-- A Pauli operator over five wires. -/
structure PaOk (p : TPauli) (x z : Nat) : Prop where
 ex : p.X = (x : Int)
 ez : p.Z = (z : Int)
 hx : x < 32
 hz : z < 32
 ph : 0 ≤ p.Phase ∧ p.Phase ≤ 3
theorem x32 {a b : Nat} (ha : a < 32) (hb : b < 32) : a ^^^ b < 32 := Nat.xor_lt_two_pow (n := 5) ha hb
theorem n32 {a b : Nat} (ha : a < 32) : a &&& b < 32 := Nat.lt_of_le_of_lt Nat.and_le_left ha
def ltr (x z q : Nat) : Int := bitZ x q + 2 * bitZ z q
def sgT : List (List Int) := [[0, 0, 0, 0], [0, 0, 3, 1], [0, 1, 0, 3], [0, 3, 1, 0]]
def sgB (a b c d : Bool) : Int := ((sgT.getD ((if a then 1 else 0) + 2 * (if b then 1 else 0)) []).getD ((if c then 1 else 0) + 2 * (if d then 1 else 0)) 0)
def sg (ax az bx bz q : Nat) : Int := sgB (ax.testBit q) (az.testBit q) (bx.testBit q) (bz.testBit q)
theorem sgB_b : ∀ a b c d : Bool, 0 ≤ sgB a b c d ∧ sgB a b c d ≤ 3 := by decide
theorem sgB_sum : ∀ a b c d : Bool, ((if a && b then 1 else 0) + (if c && d then 1 else 0) + 2 * (if b && c then 1 else 0) - (if (a ^^ c) && (b ^^ d) then 1 else 0) - sgB a b c d : Int) % 4 = 0 := by decide
theorem ltr_spec {x z : Nat} (hx : x < 32) (hz : z < 32) (p : TPauli) (h1 : p.X = (x : Int)) (h2 : p.Z = (z : Int)) {q : Nat} (hq : q ≤ 40) : F_spec_l7Letter p (q : Int) = some (ltr x z q) := by
 have sh : ∀ w : Nat, w < 32 → bits .and .i64 (shrK .i64 (w : Int) (q : Int)) 1 = bitZ w q := fun w hw => by
  have hd : w / 2 ^ q < 9223372036854775808 := Nat.lt_of_le_of_lt (Nat.div_le_self _ _) (by omega)
  rw [shr_i w q (by omega), show (1 : Int) = ((1 : Nat) : Int) from rfl, and_i hd (by decide), Nat.and_one_is_mod]
  unfold bitZ
  rw [Nat.testBit_eq_decide_div_mod_eq]
  rcases Nat.mod_two_eq_zero_or_one (w / 2 ^ q) with h | h <;> simp [h]
 unfold F_spec_l7Letter
 rw [wrapU (by omega), chk_t (by omega), chk_t (by omega), h1, h2, sh x hx, sh z hz]
 have b1 : 0 ≤ bitZ x q ∧ bitZ x q ≤ 1 := by unfold bitZ; split <;> decide
 have b2 : 0 ≤ bitZ z q ∧ bitZ z q ≤ 1 := by unfold bitZ; split <;> decide
 rw [wrap_i64 (a := 2 * bitZ z q) ⟨by omega, by omega⟩, wrap_i64 ⟨by omega, by omega⟩]
 rfl
theorem sign_spec : ∀ a b c d : Bool, F_spec_l7Sign ((if a then 1 else 0) + 2 * (if b then 1 else 0)) ((if c then 1 else 0) + 2 * (if d then 1 else 0)) = some (sgB a b c d) := by decide +kernel
def sgS (ax az bx bz : Nat) : Int := sg ax az bx bz 0 + sg ax az bx bz 1 + sg ax az bx bz 2 + sg ax az bx bz 3 + sg ax az bx bz 4
theorem sg_b (ax az bx bz q : Nat) : 0 ≤ sg ax az bx bz q ∧ sg ax az bx bz q ≤ 3 := sgB_b _ _ _ _
theorem mul_spec {a b : TPauli} {ax az bx bz : Nat} (ha : PaOk a ax az) (hb : PaOk b bx bz) : F_spec_l7Mul a b = some (TPauli.mk ((a.Phase + b.Phase + sgS ax az bx bz) % 4) ((ax ^^^ bx : Nat) : Int) ((az ^^^ bz : Nat) : Int)) := by
 have hpa := ha.ph; have hpb := hb.ph
 have st : ∀ (q : Nat) (ph : Int), q < 5 → (0 ≤ ph ∧ ph ≤ 100) → F_spec_l7Mul_l1 a b q ph = some (ph + sg ax az bx bz q) := fun q ph hq hph => by
  have hs := sg_b ax az bx bz q
  unfold F_spec_l7Mul_l1
  rw [ltr_spec ha.hx ha.hz a ha.ex ha.ez (by omega), Option.bind_some, ltr_spec hb.hx hb.hz b hb.ex hb.ez (by omega), Option.bind_some]
  unfold ltr bitZ
  rw [sign_spec, Option.bind_some]
  exact congrArg some (wrap_i64 ⟨by unfold sg at hs; omega, by unfold sg at hs; omega⟩)
 have s0 := sg_b ax az bx bz 0; have s1 := sg_b ax az bx bz 1; have s2 := sg_b ax az bx bz 2; have s3 := sg_b ax az bx bz 3; have s4 := sg_b ax az bx bz 4
 unfold F_spec_l7Mul
 rw [wrap_i64 (a := a.Phase + b.Phase) ⟨by omega, by omega⟩]
 simp only [forN, Nat.zero_add, Nat.reduceAdd]
 rw [st 0 _ (by decide) (by omega), Option.bind_some, st 1 _ (by decide) (by omega), Option.bind_some, st 2 _ (by decide) (by omega), Option.bind_some, st 3 _ (by decide) (by omega), Option.bind_some, st 4 _ (by decide) (by omega), Option.bind_some, Option.bind_some, ha.ex, ha.ez, hb.ex, hb.ez,
  xor_i (by have := ha.hx; omega) (by have := hb.hx; omega), xor_i (by have := ha.hz; omega) (by have := hb.hz; omega), Int.tmod_eq_emod_of_nonneg (by omega)]
 unfold sgS
 congr 3
 omega
theorem sum_q (ax az bx bz q : Nat) : (bitZ (ax &&& az) q + bitZ (bx &&& bz) q + 2 * bitZ (az &&& bx) q - bitZ ((ax ^^^ bx) &&& (az ^^^ bz)) q - sg ax az bx bz q) % 4 = 0 := by
 have h := sgB_sum (ax.testBit q) (az.testBit q) (bx.testBit q) (bz.testBit q)
 unfold bitZ sg
 simp only [Nat.testBit_and, Nat.testBit_xor]
 exact h
theorem times_impl {a b : TPauli} {ax az bx bz : Nat} (ha : PaOk a ax az) (hb : PaOk b bx bz) : F_impl_times a b = some (TPauli.mk ((a.Phase + b.Phase + sgS ax az bx bz) % 4) ((ax ^^^ bx : Nat) : Int) ((az ^^^ bz : Nat) : Int)) := by
 have hpa := ha.ph; have hpb := hb.ph
 have hax := ha.hx; have haz := ha.hz; have hbx := hb.hx; have hbz := hb.hz
 have hX := x32 hax hbx; have hZ := x32 haz hbz
 have oc : ∀ w : Nat, w < 32 → F_math_bits_OnesCount (IntKind.u64.wrap (w : Int)) = some (pc5 w) := fun w hw => by
  rw [wrapU (by omega)]; exact ones5 ⟨w, hw⟩
 unfold F_impl_times
 rw [ha.ex, ha.ez, hb.ex, hb.ez, and_i (by omega) (by omega), and_i (by omega) (by omega), and_i (by omega) (by omega), xor_i (by omega) (by omega), xor_i (by omega) (by omega), and_i (by omega) (by omega),
  oc _ (n32 hax), Option.bind_some, oc _ (n32 hbx), Option.bind_some, oc _ (n32 haz), Option.bind_some, oc _ (n32 hX), Option.bind_some]
 have p1 := pc5_b (ax &&& az); have p2 := pc5_b (bx &&& bz); have p3 := pc5_b (az &&& bx); have p4 := pc5_b ((ax ^^^ bx) &&& (az ^^^ bz))
 have q0 := sum_q ax az bx bz 0; have q1 := sum_q ax az bx bz 1; have q2 := sum_q ax az bx bz 2; have q3 := sum_q ax az bx bz 3; have q4 := sum_q ax az bx bz 4
 rw [wrap_i64 (a := a.Phase + b.Phase) ⟨by omega, by omega⟩, wrap_i64 (a := a.Phase + b.Phase + pc5 (ax &&& az)) ⟨by omega, by omega⟩, wrap_i64 (a := a.Phase + b.Phase + pc5 (ax &&& az) + pc5 (bx &&& bz)) ⟨by omega, by omega⟩, wrap_i64 (a := 2 * pc5 (az &&& bx)) ⟨by omega, by omega⟩,
  wrap_i64 (a := a.Phase + b.Phase + pc5 (ax &&& az) + pc5 (bx &&& bz) + 2 * pc5 (az &&& bx)) ⟨by omega, by omega⟩, wrap_i64 (a := a.Phase + b.Phase + pc5 (ax &&& az) + pc5 (bx &&& bz) + 2 * pc5 (az &&& bx) - pc5 ((ax ^^^ bx) &&& (az ^^^ bz))) ⟨by omega, by omega⟩]
 have key : (a.Phase + b.Phase + pc5 (ax &&& az) + pc5 (bx &&& bz) + 2 * pc5 (az &&& bx) - pc5 ((ax ^^^ bx) &&& (az ^^^ bz)) - (a.Phase + b.Phase + sgS ax az bx bz)) % 4 = 0 := by
  unfold pc5 sgS
  omega
 generalize a.Phase + b.Phase + pc5 (ax &&& az) + pc5 (bx &&& bz) + 2 * pc5 (az &&& bx) - pc5 ((ax ^^^ bx) &&& (az ^^^ bz)) = v at key ⊢
 have h1 : -4 < Int.tmod v 4 ∧ Int.tmod v 4 < 4 := ⟨by have := Int.lt_tmod_of_pos v (show (0 : Int) < 4 by decide); omega, Int.tmod_lt_of_pos v (by decide)⟩
 have h2 := Int.tmod_add_mul_tdiv v 4
 rw [wrap_i64 ⟨by omega, by omega⟩, Int.tmod_eq_emod_of_nonneg (by omega)]
 congr 2
 omega
/-- Both multiplications are one. -/
theorem pa_mul {a b : TPauli} {ax az bx bz : Nat} (ha : PaOk a ax az) (hb : PaOk b bx bz) : ∃ r, F_spec_l7Mul a b = some r ∧ F_impl_times a b = some r ∧ PaOk r (ax ^^^ bx) (az ^^^ bz) ∧ r.Phase = (a.Phase + b.Phase + sgS ax az bx bz) % 4 :=
 ⟨_, mul_spec ha hb, times_impl ha hb, ⟨rfl, rfl, x32 ha.hx hb.hx, x32 ha.hz hb.hz, by simp only; omega⟩, rfl⟩

def yr (w i : Nat) : Int := (if i ≤ 0 then bitZ w 0 else 0) + (if i ≤ 1 then bitZ w 1 else 0) + (if i ≤ 2 then bitZ w 2 else 0) + (if i ≤ 3 then bitZ w 3 else 0) + (if i ≤ 4 then bitZ w 4 else 0)
theorem yr_zero (w : Nat) : yr w 0 = pc5 w := by unfold yr pc5; simp
theorem yr_step (w : Nat) {i : Nat} (hi : i < 5) : yr w i = bitZ w i + yr w (i + 1) := by
 have : i = 0 ∨ i = 1 ∨ i = 2 ∨ i = 3 ∨ i = 4 := by omega
 unfold yr
 rcases this with rfl | rfl | rfl | rfl | rfl <;> simp <;> omega
theorem yr_end {w n : Nat} (hw : w < 2 ^ n) : yr w n = 0 := by
 have h : ∀ j, n ≤ j → bitZ w j = 0 := fun j hj => by
  unfold bitZ
  rw [Nat.testBit_lt_two_pow (Nat.lt_of_lt_of_le hw (Nat.pow_le_pow_right (by decide) hj))]
  rfl
 have g : ∀ j, (if n ≤ j then bitZ w j else 0) = 0 := fun j => by
  by_cases hj : n ≤ j
  ·rw [if_pos hj, h j hj]
  ·rw [if_neg hj]
 unfold yr
 rw [g, g, g, g, g]; rfl
def paD : TPauli := TPauli.mk 0 0 0
def xB (l : List TPauli) (q : Nat) : Nat := (l.getD q paD).X.toNat
def zB (l : List TPauli) (q : Nat) : Nat := (l.getD q paD).Z.toNat
/-- A tableau over n wires, as far as its bits. -/
structure TbOk (t : TTableau) (n : Nat) : Prop where
 hn : 1 ≤ n ∧ n ≤ 5
 qb : t.Qubits = (n : Int)
 lx : t.XImages.length = n
 lz : t.ZImages.length = n
 px : ∀ q, q < n → ∃ p, t.XImages[q]? = some p ∧ PaOk p (xB t.XImages q) (zB t.XImages q)
 pz : ∀ q, q < n → ∃ p, t.ZImages[q]? = some p ∧ PaOk p (xB t.ZImages q) (zB t.ZImages q)
 lt : ∀ q, q < n → (xB t.XImages q < 2 ^ n ∧ zB t.XImages q < 2 ^ n) ∧ xB t.ZImages q < 2 ^ n ∧ zB t.ZImages q < 2 ^ n
/-- The bits of an image, wire by wire. -/
def ixz (XI ZI : List TPauli) (px pz : Nat) : Nat → Nat × Nat
 | 0 => (0, 0)
 | i + 1 =>
  let s := ixz XI ZI px pz i
  let s1 := if px.testBit i then (s.1 ^^^ xB XI i, s.2 ^^^ zB XI i) else s
  if pz.testBit i then (s1.1 ^^^ xB ZI i, s1.2 ^^^ zB ZI i) else s1
theorem ltr_bits : ∀ a b : Bool, (bits .and .i64 ((if a then 1 else 0) + 2 * (if b then 1 else 0)) 1 == 1) = a ∧ (bits .and .i64 ((if a then 1 else 0) + 2 * (if b then 1 else 0)) 2 == 2) = b ∧ (((if a then 1 else 0) + 2 * (if b then 1 else 0) : Int) == 3) = (a && b) := by decide +kernel
theorem bit1_i {w m : Nat} (hw : w < 9223372036854775808) (hm : m ≤ 64) : (bits .and .i64 (shrK .i64 (w : Int) (m : Int)) 1 == 1) = w.testBit m := by
 have hd : w / 2 ^ m < 9223372036854775808 := Nat.lt_of_le_of_lt (Nat.div_le_self _ _) hw
 rw [shr_i w m hm, show (1 : Int) = ((1 : Nat) : Int) from rfl, and_i hd (by decide), Nat.and_one_is_mod, Nat.testBit_eq_decide_div_mod_eq, Bool.eq_iff_iff]
 simp only [beq_iff_eq, decide_eq_true_eq]
 omega
/-- Multiplied where the bit says so, with phases that differ. -/
theorem mul_if {ph ph' : Int} {x z ix iz : Nat} {im : TPauli} (hx : x < 32) (hz : z < 32) (hp : 0 ≤ ph ∧ ph ≤ 3) (hp' : 0 ≤ ph' ∧ ph' ≤ 3) (hi : PaOk im ix iz) :
  ∃ r r', F_spec_l7Mul (TPauli.mk ph (x : Int) (z : Int)) im = some r ∧ F_impl_times (TPauli.mk ph' (x : Int) (z : Int)) im = some r' ∧ PaOk r (x ^^^ ix) (z ^^^ iz) ∧ PaOk r' (x ^^^ ix) (z ^^^ iz) ∧ (r'.Phase - r.Phase - (ph' - ph)) % 4 = 0 := by
 obtain ⟨r, r1, _, r3, r4⟩ := pa_mul (a := TPauli.mk ph (x : Int) (z : Int)) (b := im) ⟨rfl, rfl, hx, hz, hp⟩ hi
 obtain ⟨r', _, g2, g3, g4⟩ := pa_mul (a := TPauli.mk ph' (x : Int) (z : Int)) (b := im) ⟨rfl, rfl, hx, hz, hp'⟩ hi
 refine ⟨r, r', r1, g2, r3, g3, ?_⟩
 rw [r4, g4]
 simp only
 omega
theorem image_both {t : TTableau} {n : Nat} (ht : TbOk t n) {p : TPauli} {px pz : Nat} (hp : PaOk p px pz) (hpx : px < 2 ^ n) :
  ∃ r, F_spec_l7Image t p = some r ∧ F_impl_image t p = some r ∧ PaOk r (ixz t.XImages t.ZImages px pz n).1 (ixz t.XImages t.ZImages px pz n).2 := by
 have hn := ht.hn
 have hph := hp.ph
 have key : ∀ (d i : Nat) (ph ph' : Int) (x z : Nat), i + d = n → x < 32 → z < 32 → (0 ≤ ph ∧ ph ≤ 3) → (0 ≤ ph' ∧ ph' ≤ 3) → (ph' - ph - yr (px &&& pz) i) % 4 = 0 → (x, z) = ixz t.XImages t.ZImages px pz i →
   ∃ ph1 x1 z1, forN (F_spec_l7Image_l1 p t) d i (ph, (x : Int), (z : Int)) = some (ph1, ((x1 : Nat) : Int), ((z1 : Nat) : Int)) ∧ forN (F_impl_image_l1 p t) d i (ph', (x : Int), (z : Int)) = some (ph1, (x1 : Int), (z1 : Int)) ∧ x1 < 32 ∧ z1 < 32 ∧ (0 ≤ ph1 ∧ ph1 ≤ 3) ∧ (x1, z1) = ixz t.XImages t.ZImages px pz n := by
  intro d
  induction d with
  | zero =>
   intro i ph ph' x z hi hx hz h1 h2 h3 h4
   have : i = n := by omega
   subst this
   rw [yr_end (Nat.lt_of_le_of_lt Nat.and_le_left hpx)] at h3
   have : ph' = ph := by omega
   subst this
   exact ⟨ph', x, z, rfl, rfl, hx, hz, h1, h4⟩
  | succ d ih =>
   intro i ph ph' x z hi hx hz h1 h2 h3 h4
   have hin : i < n := by omega
   obtain ⟨xi, gx, ox⟩ := ht.px i hin
   obtain ⟨zi, gz, oz⟩ := ht.pz i hin
   have hpX := hp.hx; have hpZ := hp.hz
   obtain ⟨l1, l2, l3⟩ := ltr_bits (px.testBit i) (pz.testBit i)
   rw [yr_step _ (show i < 5 by omega)] at h3
   have hy : bitZ (px &&& pz) i = if px.testBit i && pz.testBit i then 1 else 0 := by unfold bitZ; rw [Nat.testBit_and]
   -- the first half
   have half1 : ∃ a a' x' z', (((bif px.testBit i then ((getI t.XImages (i : Int)).bind fun y => (F_spec_l7Mul (TPauli.mk ph (x : Int) (z : Int)) y).bind fun r_2 => some (r_2.Phase, r_2.X, r_2.Z)) else (some (ph, (x : Int), (z : Int)))) : Option (Int × Int × Int)) = some (a, ((x' : Nat) : Int), ((z' : Nat) : Int))) ∧
     (((bif px.testBit i then ((getI t.XImages (i : Int)).bind fun y => (F_impl_times (TPauli.mk ph' (x : Int) (z : Int)) y).bind fun r_2 => some (r_2.Phase, r_2.X, r_2.Z)) else (some (ph', (x : Int), (z : Int)))) : Option (Int × Int × Int)) = some (a', (x' : Int), (z' : Int))) ∧ x' < 32 ∧ z' < 32 ∧ (0 ≤ a ∧ a ≤ 3) ∧ (0 ≤ a' ∧ a' ≤ 3) ∧ (a' - a - (ph' - ph)) % 4 = 0 ∧ (x', z') = if px.testBit i then (x ^^^ xB t.XImages i, z ^^^ zB t.XImages i) else (x, z) := by
    cases px.testBit i with
    | false => exact ⟨ph, ph', x, z, rfl, rfl, hx, hz, h1, h2, by omega, rfl⟩
    | true =>
     obtain ⟨r, r', e1, e2, e3, e4, e5⟩ := mul_if hx hz h1 h2 ox
     refine ⟨r.Phase, r'.Phase, _, _, ?_, ?_, e3.hx, e3.hz, e3.ph, e4.ph, e5, rfl⟩
     ·rw [cond_true, getI_nat, gx, Option.bind_some, e1, Option.bind_some, e3.ex, e3.ez]
     ·rw [cond_true, getI_nat, gx, Option.bind_some, e2, Option.bind_some, e4.ex, e4.ez]
   obtain ⟨a, a', x', z', s1, s2, hx', hz', ha, ha', had, hxz⟩ := half1
   have half2 : ∃ b b' x'' z'', (((bif pz.testBit i then ((getI t.ZImages (i : Int)).bind fun y => (F_spec_l7Mul (TPauli.mk a (x' : Int) (z' : Int)) y).bind fun r_2 => some (r_2.Phase, r_2.X, r_2.Z)) else (some (a, (x' : Int), (z' : Int)))) : Option (Int × Int × Int)) = some (b, ((x'' : Nat) : Int), ((z'' : Nat) : Int))) ∧
     (((bif pz.testBit i then ((getI t.ZImages (i : Int)).bind fun y => (F_impl_times (TPauli.mk a' (x' : Int) (z' : Int)) y).bind fun r_2 => some (r_2.Phase, r_2.X, r_2.Z)) else (some (a', (x' : Int), (z' : Int)))) : Option (Int × Int × Int)) = some (b', (x'' : Int), (z'' : Int))) ∧ x'' < 32 ∧ z'' < 32 ∧ (0 ≤ b ∧ b ≤ 3) ∧ (0 ≤ b' ∧ b' ≤ 3) ∧ (b' - b - (a' - a)) % 4 = 0 ∧ (x'', z'') = if pz.testBit i then (x' ^^^ xB t.ZImages i, z' ^^^ zB t.ZImages i) else (x', z') := by
    cases pz.testBit i with
    | false => exact ⟨a, a', x', z', rfl, rfl, hx', hz', ha, ha', by omega, rfl⟩
    | true =>
     obtain ⟨r, r', e1, e2, e3, e4, e5⟩ := mul_if hx' hz' ha ha' oz
     refine ⟨r.Phase, r'.Phase, _, _, ?_, ?_, e3.hx, e3.hz, e3.ph, e4.ph, e5, rfl⟩
     ·rw [cond_true, getI_nat, gz, Option.bind_some, e1, Option.bind_some, e3.ex, e3.ez]
     ·rw [cond_true, getI_nat, gz, Option.bind_some, e2, Option.bind_some, e4.ex, e4.ez]
   obtain ⟨b, b', x'', z'', s3, s4, hx'', hz'', hb, hb', hbd, hxz'⟩ := half2
   have hixz : (x'', z'') = ixz t.XImages t.ZImages px pz (i + 1) := by
    rw [hxz']
    simp only [ixz, ← h4]
    cases hq : px.testBit i with
    | false => rw [hq] at hxz; cases hxz; rfl
    | true => rw [hq] at hxz; cases hxz; rfl
   -- the reference's round
   have hS : ∃ c, F_spec_l7Image_l1 p t i (ph, (x : Int), (z : Int)) = some (c, (x'' : Int), (z'' : Int)) ∧ (0 ≤ c ∧ c ≤ 3) ∧ (b' - c - yr (px &&& pz) (i + 1)) % 4 = 0 := by
    unfold F_spec_l7Image_l1
    simp only
    rw [ltr_spec hpX hpZ p hp.ex hp.ez (by omega)]
    unfold ltr bitZ
    simp only [Option.bind_some]
    rw [l1, l2, l3, s1]
    simp only [Option.bind_some]
    rw [s3]
    simp only [Option.bind_some]
    rw [hy] at h3
    cases hq : (px.testBit i && pz.testBit i) with
    | false =>
     rw [hq] at h3
     exact ⟨b, rfl, hb, by simp only [Bool.false_eq_true, if_false] at h3; omega⟩
    | true =>
     rw [hq] at h3
     refine ⟨(b + 1) % 4, ?_, by omega, by simp only [if_true] at h3; omega⟩
     rw [cond_true, wrap_i64 ⟨by omega, by omega⟩, Int.tmod_eq_emod_of_nonneg (by omega)]
     rfl
   have hI : F_impl_image_l1 p t i (ph', (x : Int), (z : Int)) = some (b', (x'' : Int), (z'' : Int)) := by
    unfold F_impl_image_l1
    simp only
    rw [chk_t (by omega), hp.ex, hp.ez, bit1_i (by omega) (by omega), bit1_i (by omega) (by omega), s2]
    simp only [Option.bind_some]
    rw [chk_t (by omega), s4]
    rfl
   obtain ⟨c, hS1, hS2, hS3⟩ := hS
   simp only [forN, hS1, hI, Option.bind_some]
   exact ih (i + 1) c b' x'' z'' (by omega) hx'' hz'' hS2 hb' hS3 hixz
 have hpc := pc5_b (px &&& pz)
 have hst : Int.tmod (IntKind.i64.wrap (p.Phase + pc5 (px &&& pz))) 4 = (p.Phase + pc5 (px &&& pz)) % 4 := by
  rw [wrap_i64 ⟨by omega, by omega⟩, Int.tmod_eq_emod_of_nonneg (by omega)]
 obtain ⟨ph1, x1, z1, e1, e2, hx1, hz1, hp1, hi1⟩ := key n 0 p.Phase ((p.Phase + pc5 (px &&& pz)) % 4) 0 0 (by omega) (by decide) (by decide) hph (by omega) (by rw [yr_zero]; omega) rfl
 refine ⟨TPauli.mk ph1 (x1 : Int) (z1 : Int), ?_, ?_, ?_⟩
 ·unfold F_spec_l7Image
  rw [ht.qb, Int.toNat_natCast, chk_t (by omega), show (0 : Int) = ((0 : Nat) : Int) from rfl, e1]; rfl
 ·have hpX := hp.hx; have hpZ := hp.hz
  unfold F_impl_image
  rw [hp.ex, hp.ez, and_i (by omega) (by omega), wrapU (by have := n32 (b := pz) hpX; omega), ones5 ⟨px &&& pz, n32 hpX⟩, Option.bind_some, ht.qb, Int.toNat_natCast, chk_t (by omega), hst, show (0 : Int) = ((0 : Nat) : Int) from rfl, e2]; rfl
 ·rw [← hi1]
  exact ⟨rfl, rfl, hx1, hz1, hp1⟩

theorem ixz_lt {t : TTableau} {n : Nat} (ht : TbOk t n) (px pz : Nat) : ∀ i, i ≤ n → (ixz t.XImages t.ZImages px pz i).1 < 2 ^ n ∧ (ixz t.XImages t.ZImages px pz i).2 < 2 ^ n
 | 0, _ => ⟨Nat.two_pow_pos n, Nat.two_pow_pos n⟩
 | i + 1, hi => by
  obtain ⟨h1, h2⟩ := ixz_lt ht px pz i (by omega)
  obtain ⟨⟨g1, g2⟩, g3, g4⟩ := ht.lt i (by omega)
  simp only [ixz]
  split <;> split <;> refine ⟨?_, ?_⟩ <;> first | exact h1 | exact h2 | skip
  all_goals first
   | exact Nat.xor_lt_two_pow (Nat.xor_lt_two_pow h1 g1) g3
   | exact Nat.xor_lt_two_pow (Nat.xor_lt_two_pow h2 g2) g4
   | exact Nat.xor_lt_two_pow h1 g1
   | exact Nat.xor_lt_two_pow h2 g2
   | exact Nat.xor_lt_two_pow h1 g3
   | exact Nat.xor_lt_two_pow h2 g4
theorem xB_at {l : List TPauli} {q : Nat} {p : TPauli} (h : l[q]? = some p) : xB l q = p.X.toNat ∧ zB l q = p.Z.toNat := by
 unfold xB zB
 rw [List.getD_eq_getElem?_getD, h]; exact ⟨rfl, rfl⟩
/-- Both compositions. -/
theorem comp_both {s t : TTableau} {n : Nat} (hs : TbOk s n) (ht : TbOk t n) : ∃ r, F_spec_l7Then s t = some r ∧ F_impl_compose s t = some r ∧ TbOk r n ∧
  ∀ q, q < n → ((xB r.XImages q, zB r.XImages q) = ixz t.XImages t.ZImages (xB s.XImages q) (zB s.XImages q) n) ∧ (xB r.ZImages q, zB r.ZImages q) = ixz t.XImages t.ZImages (xB s.ZImages q) (zB s.ZImages q) n := by
 have hn := hs.hn
 let Good : List TPauli → List TPauli → Nat → Prop := fun L S i => L.length = i ∧ ∀ q, q < i → ∃ p, L[q]? = some p ∧ PaOk p (ixz t.XImages t.ZImages (xB S q) (zB S q) n).1 (ixz t.XImages t.ZImages (xB S q) (zB S q) n).2
 have snoc : ∀ (L S : List TPauli) (i : Nat) (p : TPauli), Good L S i → PaOk p (ixz t.XImages t.ZImages (xB S i) (zB S i) n).1 (ixz t.XImages t.ZImages (xB S i) (zB S i) n).2 → Good (L ++ [p]) S (i + 1) := fun L S i p h hp => by
  refine ⟨by rw [List.length_append, h.1]; rfl, fun q hq => ?_⟩
  by_cases hqi : q < i
  ·obtain ⟨p', h1, h2⟩ := h.2 q hqi
   exact ⟨p', by rw [List.getElem?_append_left (by rw [h.1]; exact hqi)]; exact h1, h2⟩
  ·have : q = i := by omega
   subst this
   exact ⟨p, by rw [List.getElem?_append_right (by rw [h.1]; exact Nat.le_refl q), h.1]; simp, hp⟩
 have key : ∀ (d i : Nat) (L M : List TPauli), i + d = n → Good L s.XImages i → Good M s.ZImages i →
   ∃ L' M', forN (F_spec_l7Then_l1 s t) d i (L, M) = some (L', M') ∧ forN (F_impl_compose_l1 s t) d i (L, M) = some (L', M') ∧ Good L' s.XImages n ∧ Good M' s.ZImages n := by
  intro d
  induction d with
  | zero =>
   intro i L M hi h1 h2
   have : i = n := by omega
   subst this
   exact ⟨L, M, rfl, rfl, h1, h2⟩
  | succ d ih =>
   intro i L M hi h1 h2
   have hin : i < n := by omega
   obtain ⟨px, gx, ox⟩ := hs.px i hin
   obtain ⟨pz, gz, oz⟩ := hs.pz i hin
   obtain ⟨⟨b1, b2⟩, b3, b4⟩ := hs.lt i hin
   obtain ⟨r1, e1, e2, e3⟩ := image_both ht ox b1
   obtain ⟨r2, f1, f2, f3⟩ := image_both ht oz b3
   have hl1 := h1.1; have hl2 := h2.1
   have hS : F_spec_l7Then_l1 s t i (L, M) = some (L ++ [r1], M ++ [r2]) := by
    unfold F_spec_l7Then_l1
    simp only
    rw [getI_nat, gx, Option.bind_some, e1, Option.bind_some, chk_t (by omega), getI_nat, gz, Option.bind_some, f1, Option.bind_some, chk_t (by omega)]
   have hI : F_impl_compose_l1 s t i (L, M) = some (L ++ [r1], M ++ [r2]) := by
    unfold F_impl_compose_l1
    simp only
    rw [getI_nat, gx, Option.bind_some, e2, Option.bind_some, chk_t (by omega), getI_nat, gz, Option.bind_some, f2, Option.bind_some, chk_t (by omega)]
   simp only [forN, hS, hI, Option.bind_some]
   exact ih (i + 1) _ _ (by omega) (snoc L _ i r1 h1 e3) (snoc M _ i r2 h2 f3)
 obtain ⟨L, M, k1, k2, k3, k4⟩ := key n 0 [] [] (by omega) ⟨rfl, fun q hq => absurd hq (Nat.not_lt_zero q)⟩ ⟨rfl, fun q hq => absurd hq (Nat.not_lt_zero q)⟩
 have hb : ∀ (L S : List TPauli), Good L S n → ∀ q, q < n → (xB L q, zB L q) = ixz t.XImages t.ZImages (xB S q) (zB S q) n := fun L S h q hq => by
  obtain ⟨p, h1, h2⟩ := h.2 q hq
  obtain ⟨a1, a2⟩ := xB_at h1
  rw [a1, a2, h2.ex, h2.ez, Int.toNat_natCast, Int.toNat_natCast]
 have hp : ∀ (L S : List TPauli), Good L S n → ∀ q, q < n → ∃ p, L[q]? = some p ∧ PaOk p (xB L q) (zB L q) := fun L S h q hq => by
  obtain ⟨p, h1, h2⟩ := h.2 q hq
  have := hb L S h q hq
  have e1 := congrArg Prod.fst this
  have e2 := congrArg Prod.snd this
  simp only at e1 e2
  rw [e1, e2]
  exact ⟨p, h1, h2⟩
 have hl : ∀ (L S : List TPauli), Good L S n → ∀ q, q < n → xB L q < 2 ^ n ∧ zB L q < 2 ^ n := fun L S h q hq => by
  have := hb L S h q hq
  have e1 := congrArg Prod.fst this
  have e2 := congrArg Prod.snd this
  simp only at e1 e2
  rw [e1, e2]
  exact ixz_lt ht _ _ n (Nat.le_refl n)
 refine ⟨TTableau.mk (n : Int) L M, ?_, ?_, ⟨hn, rfl, k3.1, k4.1, hp L _ k3, hp M _ k4, fun q hq => ⟨hl L _ k3 q hq, hl M _ k4 q hq⟩⟩, fun q hq => ⟨hb L _ k3 q hq, hb M _ k4 q hq⟩⟩
 ·unfold F_spec_l7Then
  rw [hs.qb, Int.toNat_natCast, chk_t (by omega), k1]; rfl
 ·unfold F_impl_compose
  rw [hs.qb, Int.toNat_natCast, chk_t (by omega), k2]; rfl
def paB (n : Nat) (p : TPauli) : Bool := decide (0 ≤ p.X) && decide (p.X < ((2 ^ n : Nat) : Int)) && decide (0 ≤ p.Z) && decide (p.Z < ((2 ^ n : Nat) : Int)) && decide (0 ≤ p.Phase) && decide (p.Phase ≤ 3)
def tbB (n : Nat) (t : TTableau) : Bool := decide (1 ≤ n) && decide (n ≤ 5) && decide (t.Qubits = (n : Int)) && decide (t.XImages.length = n) && decide (t.ZImages.length = n) && t.XImages.all (paB n) && t.ZImages.all (paB n)
theorem tb_of {n : Nat} {t : TTableau} (h : tbB n t = true) : TbOk t n := by
 unfold tbB at h
 simp only [Bool.and_eq_true, decide_eq_true_eq] at h
 obtain ⟨⟨⟨⟨⟨⟨h1, h2⟩, h3⟩, h4⟩, h5⟩, h6⟩, h7⟩ := h
 have h32 : 2 ^ n ≤ 32 := Nat.pow_le_pow_right (n := 2) (by decide) h2
 have go : ∀ L : List TPauli, L.all (paB n) = true → L.length = n → ∀ q, q < n → (∃ p, L[q]? = some p ∧ PaOk p (xB L q) (zB L q)) ∧ xB L q < 2 ^ n ∧ zB L q < 2 ^ n := fun L hL hl q hq => by
  have hg := List.getElem?_eq_getElem (show q < L.length by omega)
  have hp := List.all_eq_true.1 hL _ (List.getElem_mem (show q < L.length by omega))
  generalize L[q]'(by omega) = p at hg hp
  unfold paB at hp
  simp only [Bool.and_eq_true, decide_eq_true_eq] at hp
  obtain ⟨⟨⟨⟨⟨p1, p2⟩, p3⟩, p4⟩, p5⟩, p6⟩ := hp
  obtain ⟨a1, a2⟩ := xB_at hg
  rw [a1, a2]
  exact ⟨⟨p, hg, ⟨by omega, by omega, by omega, by omega, ⟨p5, p6⟩⟩⟩, by omega, by omega⟩
 exact ⟨⟨h1, h2⟩, h3, h4, h5, fun q hq => (go _ h6 h4 q hq).1, fun q hq => (go _ h7 h5 q hq).1, fun q hq => ⟨(go _ h6 h4 q hq).2, (go _ h7 h5 q hq).2⟩⟩

theorem gates_1 : ∀ n : Fin 6, 1 ≤ n.val → ∀ a : Fin 5, a.val < n.val → ∀ k : Fin 9, 1 ≤ k.val → k.val ≤ 6 → ∃ t, F_spec_l7Gate (n.val : Int) (TGate.mk (k.val : Int) (a.val : Int) 0) = some t ∧ F_impl_gateTableau (n.val : Int) (TGate.mk (k.val : Int) (a.val : Int) 0) = some t ∧ tbB n.val t = true := by
 have h : ∀ n : Fin 6, 1 ≤ n.val → ∀ a : Fin 5, a.val < n.val → ∀ k : Fin 9, 1 ≤ k.val → k.val ≤ 6 → (match F_spec_l7Gate (n.val : Int) (TGate.mk (k.val : Int) (a.val : Int) 0) with | some t => decide (F_impl_gateTableau (n.val : Int) (TGate.mk (k.val : Int) (a.val : Int) 0) = some t) && tbB n.val t | none => false) = true := by decide +kernel
 intro n h1 a ha k k1 k2
 have := h n h1 a ha k k1 k2
 cases hs : F_spec_l7Gate (n.val : Int) (TGate.mk (k.val : Int) (a.val : Int) 0) with
 | none => rw [hs] at this; cases this
 | some t =>
  rw [hs] at this
  simp only [Bool.and_eq_true, decide_eq_true_eq] at this
  exact ⟨t, rfl, this.1, this.2⟩
theorem gates_2 : ∀ n : Fin 6, 1 ≤ n.val → ∀ a : Fin 5, a.val < n.val → ∀ b : Fin 5, b.val < n.val → a ≠ b → ∀ k : Fin 12, 9 ≤ k.val → ∃ t, F_spec_l7Gate (n.val : Int) (TGate.mk (k.val : Int) (a.val : Int) (b.val : Int)) = some t ∧ F_impl_gateTableau (n.val : Int) (TGate.mk (k.val : Int) (a.val : Int) (b.val : Int)) = some t ∧ tbB n.val t = true := by
 have h : ∀ n : Fin 6, 1 ≤ n.val → ∀ a : Fin 5, a.val < n.val → ∀ b : Fin 5, b.val < n.val → a ≠ b → ∀ k : Fin 12, 9 ≤ k.val → (match F_spec_l7Gate (n.val : Int) (TGate.mk (k.val : Int) (a.val : Int) (b.val : Int)) with | some t => decide (F_impl_gateTableau (n.val : Int) (TGate.mk (k.val : Int) (a.val : Int) (b.val : Int)) = some t) && tbB n.val t | none => false) = true := by decide +kernel
 intro n h1 a ha b hb hab k k1
 have := h n h1 a ha b hb hab k k1
 cases hs : F_spec_l7Gate (n.val : Int) (TGate.mk (k.val : Int) (a.val : Int) (b.val : Int)) with
 | none => rw [hs] at this; cases this
 | some t =>
  rw [hs] at this
  simp only [Bool.and_eq_true, decide_eq_true_eq] at this
  exact ⟨t, rfl, this.1, this.2⟩

def aH (a : Nat) (p : Nat × Nat) : Nat × Nat := (p.1 ^^^ (if p.1.testBit a != p.2.testBit a then 2 ^ a else 0), p.2 ^^^ (if p.1.testBit a != p.2.testBit a then 2 ^ a else 0))
def aS (a : Nat) (p : Nat × Nat) : Nat × Nat := (p.1, p.2 ^^^ (if p.1.testBit a then 2 ^ a else 0))
def aC (a b : Nat) (p : Nat × Nat) : Nat × Nat := (p.1 ^^^ (if p.1.testBit a then 2 ^ b else 0), p.2 ^^^ (if p.2.testBit b then 2 ^ a else 0))
def actB (k a b : Nat) (p : Nat × Nat) : Nat × Nat := if k = 1 then aH a p else if k = 5 then aS a p else if k = 9 then aC a b p else p
/-- Bit by bit from the images of the single ones. -/
def ixa (k a b px pz : Nat) : Nat → Nat × Nat
 | 0 => (0, 0)
 | i + 1 =>
  let s := ixa k a b px pz i
  let s1 := if px.testBit i then (s.1 ^^^ (actB k a b (2 ^ i, 0)).1, s.2 ^^^ (actB k a b (2 ^ i, 0)).2) else s
  if pz.testBit i then (s1.1 ^^^ (actB k a b (0, 2 ^ i)).1, s1.2 ^^^ (actB k a b (0, 2 ^ i)).2) else s1
theorem ixa_1 : ∀ a : Fin 5, ∀ px pz : Fin 32, ixa 1 a.val 0 px.val pz.val 5 = aH a.val (px.val, pz.val) := by decide +kernel
theorem ixa_5 : ∀ a : Fin 5, ∀ px pz : Fin 32, ixa 5 a.val 0 px.val pz.val 5 = aS a.val (px.val, pz.val) := by decide +kernel
theorem ixa_9 : ∀ a b : Fin 5, a ≠ b → ∀ px pz : Fin 32, ixa 9 a.val b.val px.val pz.val 5 = aC a.val b.val (px.val, pz.val) := by decide +kernel
theorem ixa_0 : ∀ px pz : Fin 32, ixa 0 0 0 px.val pz.val 5 = (px.val, pz.val) := by decide +kernel

def gbB (n k a b : Nat) (t : TTableau) : Bool := (List.range n).all fun q => decide ((xB t.XImages q, zB t.XImages q) = actB k a b (2 ^ q, 0)) && decide ((xB t.ZImages q, zB t.ZImages q) = actB k a b (0, 2 ^ q))
/-- A gate of the reduction. -/
def gK (n k a b : Nat) : Prop := a < n ∧ (((k = 1 ∨ k = 2 ∨ k = 4 ∨ k = 5) ∧ b = 0) ∨ (k = 9 ∧ b < n ∧ a ≠ b))
theorem gbits_1 : ∀ n : Fin 6, 1 ≤ n.val → ∀ a : Fin 5, a.val < n.val → ∀ k : Fin 6, (k.val = 1 ∨ k.val = 2 ∨ k.val = 4 ∨ k.val = 5) → (match F_impl_gateTableau (n.val : Int) (TGate.mk (k.val : Int) (a.val : Int) 0) with | some t => gbB n.val k.val a.val 0 t | none => false) = true := by decide +kernel
theorem gbits_9 : ∀ n : Fin 6, 1 ≤ n.val → ∀ a : Fin 5, a.val < n.val → ∀ b : Fin 5, b.val < n.val → a ≠ b → (match F_impl_gateTableau (n.val : Int) (TGate.mk 9 (a.val : Int) (b.val : Int)) with | some t => gbB n.val 9 a.val b.val t | none => false) = true := by decide +kernel
theorem gb_get {n k a b : Nat} {t : TTableau} (h : gbB n k a b t = true) {q : Nat} (hq : q < n) : (xB t.XImages q, zB t.XImages q) = actB k a b (2 ^ q, 0) ∧ (xB t.ZImages q, zB t.ZImages q) = actB k a b (0, 2 ^ q) := by
 unfold gbB at h
 have := List.all_eq_true.1 h q (List.mem_range.2 hq)
 simpa only [Bool.and_eq_true, decide_eq_true_eq] using this
theorem ixz_ixa {n k a b : Nat} {t : TTableau} (h : gbB n k a b t = true) (px pz : Nat) : ∀ i, i ≤ n → ixz t.XImages t.ZImages px pz i = ixa k a b px pz i
 | 0, _ => rfl
 | i + 1, hi => by
  obtain ⟨h1, h2⟩ := gb_get h (q := i) (by omega)
  have e1 := congrArg Prod.fst h1; have e2 := congrArg Prod.snd h1
  have e3 := congrArg Prod.fst h2; have e4 := congrArg Prod.snd h2
  simp only at e1 e2 e3 e4
  simp only [ixz, ixa, ixz_ixa h px pz i (by omega), e1, e2, e3, e4]
theorem ixa_up {k a b px pz n : Nat} (hx : px < 2 ^ n) (hz : pz < 2 ^ n) : ∀ d, ixa k a b px pz (n + d) = ixa k a b px pz n
 | 0 => rfl
 | d + 1 => by
  have t1 : px.testBit (n + d) = false := Nat.testBit_lt_two_pow (Nat.lt_of_lt_of_le hx (Nat.pow_le_pow_right (by decide) (by omega)))
  have t2 : pz.testBit (n + d) = false := Nat.testBit_lt_two_pow (Nat.lt_of_lt_of_le hz (Nat.pow_le_pow_right (by decide) (by omega)))
  rw [show n + (d + 1) = n + d + 1 by omega]
  simp only [ixa, t1, t2, Bool.false_eq_true, if_false]
  exact ixa_up hx hz d
theorem ixa_act {n k a b px pz : Nat} (hn : n ≤ 5) (hg : gK n k a b) (hx : px < 2 ^ n) (hz : pz < 2 ^ n) : ixa k a b px pz n = actB k a b (px, pz) := by
 have h32 : 2 ^ n ≤ 32 := Nat.pow_le_pow_right (n := 2) (by decide) hn
 have hup := ixa_up (k := k) (a := a) (b := b) hx hz (5 - n)
 rw [show n + (5 - n) = 5 by omega] at hup
 rw [← hup]
 obtain ⟨ha, hk⟩ := hg
 rcases hk with ⟨rfl | rfl | rfl | rfl, rfl⟩ | ⟨rfl, hb, hab⟩
 ·exact ixa_1 ⟨a, by omega⟩ ⟨px, by omega⟩ ⟨pz, by omega⟩
 ·have e : ∀ i, ixa 2 a 0 px pz i = ixa 0 0 0 px pz i := fun i => by
   induction i with
   | zero => rfl
   | succ i ih => simp only [ixa, ih]; rfl
  rw [e]; exact ixa_0 ⟨px, by omega⟩ ⟨pz, by omega⟩
 ·have e : ∀ i, ixa 4 a 0 px pz i = ixa 0 0 0 px pz i := fun i => by
   induction i with
   | zero => rfl
   | succ i ih => simp only [ixa, ih]; rfl
  rw [e]; exact ixa_0 ⟨px, by omega⟩ ⟨pz, by omega⟩
 ·exact ixa_5 ⟨a, by omega⟩ ⟨px, by omega⟩ ⟨pz, by omega⟩
 ·exact ixa_9 ⟨a, by omega⟩ ⟨b, by omega⟩ (fun e => hab (by simpa using e)) ⟨px, by omega⟩ ⟨pz, by omega⟩
/-- A gate laid on by both. -/
theorem tb_add {t : TTableau} {n : Nat} (ht : TbOk t n) {k a b : Nat} (hg : gK n k a b) {gs : List TGate} (hl : gs.length ≤ 100000) :
  ∃ t', F_spec_l8R_add (Tl8R.mk t gs) (k : Int) (a : Int) (b : Int) = some (Tl8R.mk t' (gs ++ [TGate.mk (k : Int) (a : Int) (b : Int)])) ∧ F_impl_reducer_add (Treducer.mk t gs) (k : Int) (a : Int) (b : Int) = some (Treducer.mk t' (gs ++ [TGate.mk (k : Int) (a : Int) (b : Int)])) ∧ TbOk t' n ∧
   ∀ q, q < n → ((xB t'.XImages q, zB t'.XImages q) = actB k a b (xB t.XImages q, zB t.XImages q)) ∧ (xB t'.ZImages q, zB t'.ZImages q) = actB k a b (xB t.ZImages q, zB t.ZImages q) := by
 have hn := ht.hn
 obtain ⟨G, g1, g2, g3, g4⟩ : ∃ G, F_spec_l7Gate (n : Int) (TGate.mk (k : Int) (a : Int) (b : Int)) = some G ∧ F_impl_gateTableau (n : Int) (TGate.mk (k : Int) (a : Int) (b : Int)) = some G ∧ tbB n G = true ∧ gbB n k a b G = true := by
  obtain ⟨ha, hk⟩ := hg
  rcases hk with ⟨hk, rfl⟩ | ⟨rfl, hb, hab⟩
  ·obtain ⟨G, e1, e2, e3⟩ := gates_1 ⟨n, by omega⟩ hn.1 ⟨a, by omega⟩ ha ⟨k, by omega⟩ (show 1 ≤ k by omega) (show k ≤ 6 by omega)
   have e4 := gbits_1 ⟨n, by omega⟩ hn.1 ⟨a, by omega⟩ ha ⟨k, by omega⟩ hk
   simp only at e1 e2 e3 e4
   rw [e2] at e4
   exact ⟨G, e1, e2, e3, e4⟩
  ·obtain ⟨G, e1, e2, e3⟩ := gates_2 ⟨n, by omega⟩ hn.1 ⟨a, by omega⟩ ha ⟨b, by omega⟩ hb (fun e => hab (by simpa using e)) ⟨9, by decide⟩ (by decide)
   have e4 := gbits_9 ⟨n, by omega⟩ hn.1 ⟨a, by omega⟩ ha ⟨b, by omega⟩ hb (fun e => hab (by simpa using e))
   simp only at e1 e2 e3 e4
   have e2' : F_impl_gateTableau (n : Int) (TGate.mk 9 (a : Int) (b : Int)) = some G := e2
   rw [e2'] at e4
   exact ⟨G, e1, e2, e3, e4⟩
 obtain ⟨r, c1, c2, c3, c4⟩ := comp_both ht (tb_of g3)
 refine ⟨r, ?_, ?_, c3, fun q hq => ?_⟩
 ·unfold F_spec_l8R_add
  simp only
  rw [ht.qb, g1, Option.bind_some, c1, Option.bind_some, chk_t (by omega)]
 ·unfold F_impl_reducer_add
  simp only
  rw [ht.qb, g2, Option.bind_some, c2, Option.bind_some, chk_t (by omega)]
 ·obtain ⟨h1, h2⟩ := c4 q hq
  obtain ⟨⟨l1, l2⟩, l3, l4⟩ := ht.lt q hq
  rw [ixz_ixa g4 _ _ n (Nat.le_refl n), ixa_act hn.2 hg l1 l2] at h1
  rw [ixz_ixa g4 _ _ n (Nat.le_refl n), ixa_act hn.2 hg l3 l4] at h2
  exact ⟨h1, h2⟩

def omT (j : Nat) (p p' : Nat × Nat) : Bool := (p.1.testBit j && p'.2.testBit j) ^^ (p.2.testBit j && p'.1.testBit j)
def om (p p' : Nat × Nat) : Bool := omT 0 p p' ^^ (omT 1 p p' ^^ (omT 2 p p' ^^ (omT 3 p p' ^^ omT 4 p p')))
theorem cbit (b : Bool) (a j : Nat) : (if b = true then 2 ^ a else 0 : Nat).testBit j = (b && decide (a = j)) := by
 cases b with
 | false => simp
 | true => simp [Nat.testBit_two_pow]
theorem aH_bit (a j : Nat) (p : Nat × Nat) : (aH a p).1.testBit j = (if a = j then p.2.testBit j else p.1.testBit j) ∧ (aH a p).2.testBit j = if a = j then p.1.testBit j else p.2.testBit j := by
 unfold aH
 simp only [Nat.testBit_xor, cbit]
 by_cases h : a = j
 ·subst h
  cases p.1.testBit a <;> cases p.2.testBit a <;> simp
 ·simp [h]
theorem aS_bit (a j : Nat) (p : Nat × Nat) : (aS a p).1.testBit j = p.1.testBit j ∧ (aS a p).2.testBit j = if a = j then (p.2.testBit j ^^ p.1.testBit j) else p.2.testBit j := by
 unfold aS
 simp only [Nat.testBit_xor, cbit]
 by_cases h : a = j
 ·subst h; simp
 ·simp [h]
theorem aC_bit (a b j : Nat) (p : Nat × Nat) : (aC a b p).1.testBit j = (if b = j then (p.1.testBit j ^^ p.1.testBit a) else p.1.testBit j) ∧ (aC a b p).2.testBit j = if a = j then (p.2.testBit j ^^ p.2.testBit b) else p.2.testBit j := by
 unfold aC
 simp only [Nat.testBit_xor, cbit]
 constructor
 ·by_cases h : b = j
  ·subst h; simp
  ·simp [h]
 ·by_cases h : a = j
  ·subst h; simp
  ·simp [h]
theorem omT_H (a j : Nat) (p p' : Nat × Nat) : omT j (aH a p) (aH a p') = omT j p p' := by
 unfold omT
 rw [(aH_bit a j p).1, (aH_bit a j p).2, (aH_bit a j p').1, (aH_bit a j p').2]
 by_cases h : a = j
 ·simp only [h, if_true]
  cases p.1.testBit j <;> cases p.2.testBit j <;> cases p'.1.testBit j <;> cases p'.2.testBit j <;> rfl
 ·simp only [h, if_false]
theorem omT_S (a j : Nat) (p p' : Nat × Nat) : omT j (aS a p) (aS a p') = omT j p p' := by
 unfold omT
 rw [(aS_bit a j p).1, (aS_bit a j p).2, (aS_bit a j p').1, (aS_bit a j p').2]
 by_cases h : a = j
 ·simp only [h, if_true]
  cases p.1.testBit j <;> cases p.2.testBit j <;> cases p'.1.testBit j <;> cases p'.2.testBit j <;> rfl
 ·simp only [h, if_false]
theorem omT_C {a b j : Nat} (h1 : a ≠ j) (h2 : b ≠ j) (p p' : Nat × Nat) : omT j (aC a b p) (aC a b p') = omT j p p' := by
 unfold omT
 rw [(aC_bit a b j p).1, (aC_bit a b j p).2, (aC_bit a b j p').1, (aC_bit a b j p').2]
 simp only [h1, h2, if_false]
theorem omT_Cab {a b : Nat} (h : a ≠ b) (p p' : Nat × Nat) : (omT a (aC a b p) (aC a b p') ^^ omT b (aC a b p) (aC a b p')) = (omT a p p' ^^ omT b p p') := by
 unfold omT
 rw [(aC_bit a b a p).1, (aC_bit a b a p).2, (aC_bit a b a p').1, (aC_bit a b a p').2, (aC_bit a b b p).1, (aC_bit a b b p).2, (aC_bit a b b p').1, (aC_bit a b b p').2]
 simp only [h, Ne.symm h, if_true, if_false]
 cases p.1.testBit a <;> cases p.2.testBit a <;> cases p'.1.testBit a <;> cases p'.2.testBit a <;> cases p.1.testBit b <;> cases p.2.testBit b <;> cases p'.1.testBit b <;> cases p'.2.testBit b <;> rfl
theorem om_act {n k a b : Nat} (hn : n ≤ 5) (hg : gK n k a b) (p p' : Nat × Nat) : om (actB k a b p) (actB k a b p') = om p p' := by
 obtain ⟨ha, hk⟩ := hg
 rcases hk with ⟨rfl | rfl | rfl | rfl, rfl⟩ | ⟨rfl, hb, hab⟩
 ·show om (aH a p) (aH a p') = om p p'
  unfold om
  rw [omT_H, omT_H, omT_H, omT_H, omT_H]
 ·rfl
 ·rfl
 ·show om (aS a p) (aS a p') = om p p'
  unfold om
  rw [omT_S, omT_S, omT_S, omT_S, omT_S]
 ·show om (aC a b p) (aC a b p') = om p p'
  have c2 := omT_Cab hab p p'
  have c1 := fun j (h1 : a ≠ j) (h2 : b ≠ j) => omT_C h1 h2 p p'
  unfold om
  have ha' : a = 0 ∨ a = 1 ∨ a = 2 ∨ a = 3 ∨ a = 4 := by omega
  have hb' : b = 0 ∨ b = 1 ∨ b = 2 ∨ b = 3 ∨ b = 4 := by omega
  have go : ∀ v0 v1 v2 v3 v4 w0 w1 w2 w3 w4 : Bool, omT 0 (aC a b p) (aC a b p') = v0 → omT 1 (aC a b p) (aC a b p') = v1 → omT 2 (aC a b p) (aC a b p') = v2 → omT 3 (aC a b p) (aC a b p') = v3 → omT 4 (aC a b p) (aC a b p') = v4 →
    omT 0 p p' = w0 → omT 1 p p' = w1 → omT 2 p p' = w2 → omT 3 p p' = w3 → omT 4 p p' = w4 → (v0 ^^ (v1 ^^ (v2 ^^ (v3 ^^ v4)))) = (w0 ^^ (w1 ^^ (w2 ^^ (w3 ^^ w4)))) := by
   intro v0 v1 v2 v3 v4 w0 w1 w2 w3 w4 e0 e1 e2 e3 e4 f0 f1 f2 f3 f4
   have d0 := c1 0; have d1 := c1 1; have d2 := c1 2; have d3 := c1 3; have d4 := c1 4
   rw [e0, f0] at d0; rw [e1, f1] at d1; rw [e2, f2] at d2; rw [e3, f3] at d3; rw [e4, f4] at d4
   clear c1
   rcases ha' with rfl | rfl | rfl | rfl | rfl <;> rcases hb' with rfl | rfl | rfl | rfl | rfl <;> first
    | exact absurd rfl hab
    | (simp only [e0, e1, e2, e3, e4, f0, f1, f2, f3, f4] at c2; clear e0 e1 e2 e3 e4 f0 f1 f2 f3 f4 ha hb hab; first | (have q0 := d0 (by decide) (by decide); have q1 := d1 (by decide) (by decide); have q2 := d2 (by decide) (by decide); clear d0 d1 d2 d3 d4; subst q0 q1 q2; revert c2; revert v0 v1 v2 v3 v4 w3 w4; decide) | (have q0 := d0 (by decide) (by decide); have q1 := d1 (by decide) (by decide); have q3 := d3 (by decide) (by decide); clear d0 d1 d2 d3 d4; subst q0 q1 q3; revert c2; revert v0 v1 v2 v3 v4 w2 w4; decide) | (have q0 := d0 (by decide) (by decide); have q1 := d1 (by decide) (by decide); have q4 := d4 (by decide) (by decide); clear d0 d1 d2 d3 d4; subst q0 q1 q4; revert c2; revert v0 v1 v2 v3 v4 w2 w3; decide) | (have q0 := d0 (by decide) (by decide); have q2 := d2 (by decide) (by decide); have q3 := d3 (by decide) (by decide); clear d0 d1 d2 d3 d4; subst q0 q2 q3; revert c2; revert v0 v1 v2 v3 v4 w1 w4; decide) | (have q0 := d0 (by decide) (by decide); have q2 := d2 (by decide) (by decide); have q4 := d4 (by decide) (by decide); clear d0 d1 d2 d3 d4; subst q0 q2 q4; revert c2; revert v0 v1 v2 v3 v4 w1 w3; decide) | (have q0 := d0 (by decide) (by decide); have q3 := d3 (by decide) (by decide); have q4 := d4 (by decide) (by decide); clear d0 d1 d2 d3 d4; subst q0 q3 q4; revert c2; revert v0 v1 v2 v3 v4 w1 w2; decide) | (have q1 := d1 (by decide) (by decide); have q2 := d2 (by decide) (by decide); have q3 := d3 (by decide) (by decide); clear d0 d1 d2 d3 d4; subst q1 q2 q3; revert c2; revert v0 v1 v2 v3 v4 w0 w4; decide) | (have q1 := d1 (by decide) (by decide); have q2 := d2 (by decide) (by decide); have q4 := d4 (by decide) (by decide); clear d0 d1 d2 d3 d4; subst q1 q2 q4; revert c2; revert v0 v1 v2 v3 v4 w0 w3; decide) | (have q1 := d1 (by decide) (by decide); have q3 := d3 (by decide) (by decide); have q4 := d4 (by decide) (by decide); clear d0 d1 d2 d3 d4; subst q1 q3 q4; revert c2; revert v0 v1 v2 v3 v4 w0 w2; decide) | (have q2 := d2 (by decide) (by decide); have q3 := d3 (by decide) (by decide); have q4 := d4 (by decide) (by decide); clear d0 d1 d2 d3 d4; subst q2 q3 q4; revert c2; revert v0 v1 v2 v3 v4 w0 w1; decide))
  exact go _ _ _ _ _ _ _ _ _ _ rfl rfl rfl rfl rfl rfl rfl rfl rfl rfl

theorem om_pc {ax az bx bz : Nat} : (pc5 (ax &&& bz) + pc5 (az &&& bx)) % 2 = (if om (ax, az) (bx, bz) then 1 else 0) := by
 have t : ∀ j, (bitZ (ax &&& bz) j + bitZ (az &&& bx) j) % 2 = if omT j (ax, az) (bx, bz) then 1 else 0 := fun j => by
  unfold bitZ omT
  simp only [Nat.testBit_and]
  cases ax.testBit j <;> cases az.testBit j <;> cases bx.testBit j <;> cases bz.testBit j <;> rfl
 have t0 := t 0; have t1 := t 1; have t2 := t 2; have t3 := t 3; have t4 := t 4
 unfold pc5 om
 generalize omT 0 (ax, az) (bx, bz) = o0 at *; generalize omT 1 (ax, az) (bx, bz) = o1 at *; generalize omT 2 (ax, az) (bx, bz) = o2 at *; generalize omT 3 (ax, az) (bx, bz) = o3 at *; generalize omT 4 (ax, az) (bx, bz) = o4 at *
 cases o0 <;> cases o1 <;> cases o2 <;> cases o3 <;> cases o4 <;> simp at * <;> omega
theorem comm_impl {a b : TPauli} {ax az bx bz : Nat} (ha : PaOk a ax az) (hb : PaOk b bx bz) : F_impl_commute a b = some (!om (ax, az) (bx, bz)) := by
 have hax := ha.hx; have haz := ha.hz; have hbx := hb.hx; have hbz := hb.hz
 have oc : ∀ w : Nat, w < 32 → F_math_bits_OnesCount (IntKind.u64.wrap (w : Int)) = some (pc5 w) := fun w hw => by
  rw [wrapU (by omega)]; exact ones5 ⟨w, hw⟩
 have p1 := pc5_b (ax &&& bz); have p2 := pc5_b (az &&& bx)
 unfold F_impl_commute
 rw [ha.ex, ha.ez, hb.ex, hb.ez, and_i (by omega) (by omega), and_i (by omega) (by omega), oc _ (n32 hax), Option.bind_some, oc _ (n32 haz), Option.bind_some, wrap_i64 ⟨by omega, by omega⟩, Int.tmod_eq_emod_of_nonneg (by omega), om_pc]
 cases om (ax, az) (bx, bz) <;> rfl
/-- An image that is taken. -/
def imB (n : Nat) (p : TPauli) : Bool := decide ((0 ≤ p.Phase ∧ p.Phase ≤ 3) ∧ (0 ≤ p.X ∧ p.X ≤ ((2 ^ n : Nat) : Int) - 1) ∧ (0 ≤ p.Z ∧ p.Z ≤ ((2 ^ n : Nat) : Int) - 1)) && (Int.tmod p.Phase 2 == 0)
theorem pauli_impl {n : Nat} (hn : 1 ≤ n ∧ n ≤ 5) (p : TPauli) : F_impl_IsValidPauli (n : Int) p = some (decide ((0 ≤ p.Phase ∧ p.Phase ≤ 3) ∧ (0 ≤ p.X ∧ p.X ≤ ((2 ^ n : Nat) : Int) - 1) ∧ (0 ≤ p.Z ∧ p.Z ≤ ((2 ^ n : Nat) : Int) - 1))) := by
 have h32 : 2 ^ n ≤ 32 := Nat.pow_le_pow_right (n := 2) (by decide) hn.2
 have hp := Nat.two_pow_pos n
 have s1 : shlK .i64 1 (n : Int) = ((2 ^ n : Nat) : Int) := by rw [show (1 : Int) = ((1 : Nat) : Int) from rfl, shl_i (by omega) (by omega), Nat.one_mul]
 have chN : ∀ {α : Type} {q : Prop} [Decidable q] (x : Option α), chk (q → (0 : Int) ≤ (n : Int)) x = x := fun {α q} _ x => chk_t (fun _ => by omega)
 unfold F_impl_IsValidPauli F_impl_within
 simp only [chN]
 rw [s1, wrap_i64 ⟨by omega, by omega⟩, show (decide (1 ≤ (n : Int)) && decide ((n : Int) ≤ 5)) = true by simp; omega]
 simp only [Option.bind_some, gb, cond_true, Bool.true_and]
 by_cases h1 : 0 ≤ p.Phase ∧ p.Phase ≤ 3
 ·rw [show (decide (0 ≤ p.Phase) && decide (p.Phase ≤ 3)) = true by simpa using h1]
  simp only [cond_true, Option.bind_some, Bool.true_and]
  by_cases h2 : 0 ≤ p.X ∧ p.X ≤ ((2 ^ n : Nat) : Int) - 1
  ·rw [show (decide (0 ≤ p.X) && decide (p.X ≤ ((2 ^ n : Nat) : Int) - 1)) = true by simpa using h2]
   simp only [cond_true, Option.bind_some, Bool.true_and]
   congr 1
   rw [Bool.eq_iff_iff]
   simp only [Bool.and_eq_true, decide_eq_true_eq]
   exact ⟨fun h => ⟨h1, h2, h⟩, fun h => h.2.2⟩
  ·rw [show (decide (0 ≤ p.X) && decide (p.X ≤ ((2 ^ n : Nat) : Int) - 1)) = false by rw [← Bool.not_eq_true]; simpa using h2, decide_eq_false (show ¬ ((0 ≤ p.Phase ∧ p.Phase ≤ 3) ∧ (0 ≤ p.X ∧ p.X ≤ ((2 ^ n : Nat) : Int) - 1) ∧ (0 ≤ p.Z ∧ p.Z ≤ ((2 ^ n : Nat) : Int) - 1)) from fun h => h2 h.2.1)]
   rfl
 ·rw [show (decide (0 ≤ p.Phase) && decide (p.Phase ≤ 3)) = false by rw [← Bool.not_eq_true]; simpa using h1, decide_eq_false (show ¬ ((0 ≤ p.Phase ∧ p.Phase ≤ 3) ∧ (0 ≤ p.X ∧ p.X ≤ ((2 ^ n : Nat) : Int) - 1) ∧ (0 ≤ p.Z ∧ p.Z ≤ ((2 ^ n : Nat) : Int) - 1)) from fun h => h1 h.1)]
  rfl
def BB (t : TTableau) (q : Nat) : Nat × Nat := (xB (t.XImages ++ t.ZImages) q, zB (t.XImages ++ t.ZImages) q)
/-- A tableau whose images commute as they should. -/
structure Sy (t : TTableau) (n : Nat) : Prop where
 ok : TbOk t n
 om : ∀ i j, j < i → i < 2 * n → om (BB t i) (BB t j) = decide (i = j + n)
theorem concat_eq {A B : List TPauli} (h : A.length + B.length ≤ 1000000) : F_slices_Concat_impl_Pauli_impl_Pauli [A, B] = some (A ++ B) := by
 unfold F_slices_Concat_impl_Pauli_impl_Pauli
 have s1 : F_slices_Concat_impl_Pauli_impl_Pauli_l1 [A, B] 0 0 = some (A.length : Int) := by
  unfold F_slices_Concat_impl_Pauli_impl_Pauli_l1
  rw [getI_nat]
  simp only [List.getElem?_cons_zero, Option.bind_some]
  rw [wrap_i64 ⟨by omega, by omega⟩, decide_eq_false (by omega), cond_false, Int.zero_add]
 have s2 : F_slices_Concat_impl_Pauli_impl_Pauli_l1 [A, B] 1 (A.length : Int) = some ((A.length + B.length : Nat) : Int) := by
  unfold F_slices_Concat_impl_Pauli_impl_Pauli_l1
  rw [getI_nat]
  simp only [List.getElem?_cons_succ, List.getElem?_cons_zero, Option.bind_some]
  rw [wrap_i64 ⟨by omega, by omega⟩, decide_eq_false (by omega), cond_false]
  congr 1
 have s3 : F_slices_Concat_impl_Pauli_impl_Pauli_l2 [A, B] 0 [] = some A := by
  unfold F_slices_Concat_impl_Pauli_impl_Pauli_l2
  rw [getI_nat]
  simp only [List.getElem?_cons_zero, Option.bind_some, List.length_nil, List.nil_append]
  rw [chk_t (by omega)]
 have s4 : F_slices_Concat_impl_Pauli_impl_Pauli_l2 [A, B] 1 A = some (A ++ B) := by
  unfold F_slices_Concat_impl_Pauli_impl_Pauli_l2
  rw [getI_nat]
  simp only [List.getElem?_cons_succ, List.getElem?_cons_zero, Option.bind_some]
  rw [chk_t (by omega)]
 rw [show ([A, B] : List (List TPauli)).length = 2 from rfl, chk_t (by decide)]
 simp only [forN, Nat.zero_add, s1, s2, s3, s4, Option.bind_some]
 rw [chk_t ⟨by omega, by omega⟩, chk_t (by decide)]
/-- A gate that is taken, over n wires. -/
def gOk (n : Int) (g : TGate) : Bool :=
 bif decide (1 ≤ g.Kind) && decide (g.Kind ≤ 8) then decide (0 ≤ g.A) && decide (g.A ≤ n - 1) && (g.B == 0)
 else bif decide (9 ≤ g.Kind) && decide (g.Kind ≤ 11) then decide (0 ≤ g.A) && decide (g.A ≤ n - 1) && (decide (0 ≤ g.B) && decide (g.B ≤ n - 1)) && (g.A != g.B)
 else (g.Kind == 12) && (g.A == 0) && (g.B == 0)
theorem spec_gate {n : Int} (hn : 1 ≤ n ∧ n ≤ 5) (g : TGate) : F_spec_l4Gate n g = some (gOk n g) := by
 unfold F_spec_l4Gate F_spec_l1In gOk
 rw [wrap_i64 (a := n - 1) ⟨by omega, by omega⟩]
 simp only [Option.bind_some, gb]
 cases decide (1 ≤ g.Kind) && decide (g.Kind ≤ 8) <;> cases decide (9 ≤ g.Kind) && decide (g.Kind ≤ 11) <;> simp only [cond_true, cond_false, Option.bind_some]
 all_goals cases decide (0 ≤ g.A) && decide (g.A ≤ n - 1) <;> simp
theorem impl_gate {n : Int} (hn : 1 ≤ n ∧ n ≤ 5) (g : TGate) : F_impl_IsValidGate n g = some (gOk n g) := by
 unfold F_impl_IsValidGate F_impl_isTwo F_impl_within gOk
 rw [wrap_i64 (a := n - 1) ⟨by omega, by omega⟩]
 have h1 : decide (1 ≤ n) = true := decide_eq_true hn.1
 have h5 : decide (n ≤ 5) = true := decide_eq_true hn.2
 simp only [Option.bind_some, gb, h1, h5, Bool.and_self, Bool.not_true, Bool.not_false, cond_true, Bool.false_or]
 by_cases hk : 1 ≤ g.Kind ∧ g.Kind ≤ 12
 ·have e1 : (decide (1 ≤ g.Kind) && decide (g.Kind ≤ 12)) = true := by simp [hk]
  simp only [e1, Bool.not_true, cond_false]
  by_cases h12 : g.Kind = 12
  ·simp [h12]
  ·have e12 : (g.Kind == 12) = false := by simp [h12]
   simp only [e12, cond_false]
   by_cases h9 : 9 ≤ g.Kind
   ·have a1 : (decide (9 ≤ g.Kind) && decide (g.Kind ≤ 11)) = true := by simp; omega
    have a2 : (decide (1 ≤ g.Kind) && decide (g.Kind ≤ 8)) = false := by simp; omega
    simp only [a1, a2, cond_true, cond_false]
    cases decide (0 ≤ g.A) && decide (g.A ≤ n - 1) <;> simp
   ·have a1 : (decide (9 ≤ g.Kind) && decide (g.Kind ≤ 11)) = false := by simp; omega
    have a2 : (decide (1 ≤ g.Kind) && decide (g.Kind ≤ 8)) = true := by simp; omega
    simp only [a1, a2, cond_true, cond_false]
 ·have e1 : (decide (1 ≤ g.Kind) && decide (g.Kind ≤ 12)) = false := by simp; omega
  have a1 : (decide (9 ≤ g.Kind) && decide (g.Kind ≤ 11)) = false := by simp; omega
  have a2 : (decide (1 ≤ g.Kind) && decide (g.Kind ≤ 8)) = false := by simp; omega
  have a3 : (g.Kind == 12) = false := by simp; omega
  simp [e1, a1, a2, a3]
/-- A circuit that is taken. -/
def cOk (c : TCircuit) : Bool := decide (1 ≤ c.Qubits) && decide (c.Qubits ≤ 5) && decide (c.Gates.length ≤ 400) && c.Gates.all (gOk c.Qubits)
theorem spec_good (c : TCircuit) : F_spec_l4Good c = some (cOk c) := by
 unfold F_spec_l4Good F_spec_l1In cOk
 simp only [Option.bind_some]
 by_cases hn : 1 ≤ c.Qubits ∧ c.Qubits ≤ 5
 ·by_cases hl : c.Gates.length ≤ 400
  ·have e : (!(decide (1 ≤ c.Qubits) && decide (c.Qubits ≤ 5)) || decide ((400 : Int) < (c.Gates.length : Int))) = false := by simp [hn]; omega
   rw [e, cond_false, chk_t (by omega)]
   rcases forX_any (f := F_spec_l4Good_l1 c) (l := c.Gates) (p := fun g => !gOk c.Qubits g) (q := fun _ => false) (fun i x hx => by
    unfold F_spec_l4Good_l1; simp only [getI_nat, hx, Option.bind_some, spec_gate hn]; cases gOk c.Qubits x <;> rfl) with ⟨h1, h2⟩ | ⟨h1, i, _, h2⟩
   ·rw [h2]
    have : c.Gates.all (gOk c.Qubits) = true := by rw [List.all_eq_true]; intro x hx; have := List.any_eq_false.1 h1 x hx; simpa using this
    simp [orR, hn, hl, this]
   ·rw [h2]
    have : c.Gates.all (gOk c.Qubits) = false := by
     obtain ⟨x, hx, hp⟩ := List.any_eq_true.1 h1
     rw [List.all_eq_false]; exact ⟨x, hx, by simpa using hp⟩
    simp [orR, this]
  ·have e : (!(decide (1 ≤ c.Qubits) && decide (c.Qubits ≤ 5)) || decide ((400 : Int) < (c.Gates.length : Int))) = true := by simp; omega
   rw [e, cond_true]
   simp [hl]
 ·have e : (!(decide (1 ≤ c.Qubits) && decide (c.Qubits ≤ 5)) || decide ((400 : Int) < (c.Gates.length : Int))) = true := by simp; omega
  rw [e, cond_true]
  have : (decide (1 ≤ c.Qubits) && decide (c.Qubits ≤ 5)) = false := by simp; omega
  simp [this]
theorem impl_good (c : TCircuit) (hlen : c.Gates.length ≤ 1048576) : F_impl_IsValidCircuit c = some (cOk c) := by
 unfold F_impl_IsValidCircuit F_impl_within cOk
 simp only [Option.bind_some]
 by_cases hn : 1 ≤ c.Qubits ∧ c.Qubits ≤ 5
 ·by_cases hl : c.Gates.length ≤ 400
  ·have e : (decide (1 ≤ c.Qubits) && decide (c.Qubits ≤ 5) && decide ((c.Gates.length : Int) ≤ 400)) = true := by simp [hn]; omega
   rw [e]
   have hf : ∀ i x, c.Gates[i]? = some x → F_slices_IndexFunc_impl_Gate_impl_Gate_l1 c.Gates (fun x_0 => F_impl_IsValidCircuit_1 x_0 c) i () = some (bif !gOk c.Qubits x then .rt (i : Int) else .nx ()) := fun i x hx => by
    unfold F_slices_IndexFunc_impl_Gate_impl_Gate_l1 F_impl_IsValidCircuit_1
    simp only [getI_nat, hx, Option.bind_some, impl_gate hn]
    cases gOk c.Qubits x <;> rfl
   unfold F_slices_ContainsFunc_impl_Gate_impl_Gate F_slices_IndexFunc_impl_Gate_impl_Gate
   rw [chk_t (by omega)]
   rcases forX_any hf with ⟨h1, h2⟩ | ⟨h1, i, _, h2⟩
   ·rw [h2]
    have : c.Gates.all (gOk c.Qubits) = true := by rw [List.all_eq_true]; intro x hx; have := List.any_eq_false.1 h1 x hx; simpa using this
    simp [orR, hn, hl, this, gb]
   ·rw [h2]
    have : c.Gates.all (gOk c.Qubits) = false := by
     obtain ⟨x, hx, hp⟩ := List.any_eq_true.1 h1
     rw [List.all_eq_false]; exact ⟨x, hx, by simpa using hp⟩
    simp [orR, this, gb]
  ·have e : (decide (1 ≤ c.Qubits) && decide (c.Qubits ≤ 5) && decide ((c.Gates.length : Int) ≤ 400)) = false := by simp; omega
   rw [e]
   simp [gb, hl]
 ·have this : (decide (1 ≤ c.Qubits) && decide (c.Qubits ≤ 5)) = false := by simp; omega
  simp [gb, this]
def cst (g : TGate) : Nat := if g.Kind = 5 then 3 else 1
/-- Gates that may be laid out, at a cost. -/
structure Gd (n : Nat) (gs : List TGate) (m : Nat) : Prop where
 ok : ∀ g ∈ gs, gOk (n : Int) g = true
 co : (gs.map cst).sum ≤ m
theorem cst_len : ∀ gs : List TGate, gs.length ≤ (gs.map cst).sum
 | [] => Nat.le_refl 0
 | g :: gs => by
  have := cst_len gs
  have h1 : 1 ≤ cst g := by unfold cst; split <;> decide
  simp only [List.map_cons, List.sum_cons, List.length_cons]
  omega
theorem gK_ok {n k a b : Nat} (h : gK n k a b) : gOk (n : Int) (TGate.mk (k : Int) (a : Int) (b : Int)) = true := by
 obtain ⟨ha, hk⟩ := h
 unfold gOk
 simp only
 rcases hk with ⟨hk, rfl⟩ | ⟨rfl, hb, hab⟩
 ·rw [show (decide (1 ≤ (k : Int)) && decide ((k : Int) ≤ 8)) = true by simp; omega, cond_true]
  simp; omega
 ·rw [show (decide (1 ≤ ((9 : Nat) : Int)) && decide (((9 : Nat) : Int) ≤ 8)) = false by decide, cond_false, show (decide (9 ≤ ((9 : Nat) : Int)) && decide (((9 : Nat) : Int) ≤ 11)) = true by decide, cond_true]
  simp; omega
theorem BB_x {t : TTableau} {n : Nat} (h : TbOk t n) {q : Nat} (hq : q < n) : BB t q = (xB t.XImages q, zB t.XImages q) := by
 unfold BB xB zB
 rw [List.getD_eq_getElem?_getD, List.getD_eq_getElem?_getD, List.getElem?_append_left (by rw [h.lx]; exact hq)]
theorem BB_z {t : TTableau} {n : Nat} (h : TbOk t n) {q : Nat} : BB t (n + q) = (xB t.ZImages q, zB t.ZImages q) := by
 unfold BB xB zB
 rw [List.getD_eq_getElem?_getD, List.getD_eq_getElem?_getD, List.getElem?_append_right (by rw [h.lx]; omega), h.lx, Nat.add_sub_cancel_left]
/-- A gate laid on. -/
theorem sy_add {t : TTableau} {n : Nat} (h : Sy t n) {k a b : Nat} (hg : gK n k a b) {gs : List TGate} {m : Nat} (hd : Gd n gs m) (hm : m ≤ 10000) :
  ∃ t' gs', F_spec_l8R_add (Tl8R.mk t gs) (k : Int) (a : Int) (b : Int) = some (Tl8R.mk t' gs') ∧ F_impl_reducer_add (Treducer.mk t gs) (k : Int) (a : Int) (b : Int) = some (Treducer.mk t' gs') ∧ Sy t' n ∧ Gd n gs' (m + (if k = 5 then 3 else 1)) ∧ ∀ q, q < 2 * n → BB t' q = actB k a b (BB t q) := by
 have hl := cst_len gs
 have hco := hd.co
 obtain ⟨t', e1, e2, e3, e4⟩ := tb_add h.ok hg (gs := gs) (by omega)
 have hb : ∀ q, q < 2 * n → BB t' q = actB k a b (BB t q) := fun q hq => by
  rcases Nat.lt_or_ge q n with h1 | h1
  ·rw [BB_x e3 h1, BB_x h.ok h1]; exact (e4 q h1).1
  ·obtain ⟨r, rfl⟩ : ∃ r, q = n + r := ⟨q - n, by omega⟩
   rw [BB_z e3, BB_z h.ok]; exact (e4 r (by omega)).2
 refine ⟨t', _, e1, e2, ⟨e3, fun i j hji hi => ?_⟩, ⟨fun g hg' => ?_, ?_⟩, hb⟩
 ·rw [hb i hi, hb j (by omega), om_act h.ok.hn.2 hg]
  exact h.om i j hji hi
 ·rcases List.mem_append.1 hg' with h1 | h1
  ·exact hd.ok g h1
  ·rw [List.mem_singleton.1 h1]; exact gK_ok hg
 ·rw [List.map_append, List.sum_append]
  simp only [List.map_cons, List.map_nil, List.sum_cons, List.sum_nil]
  have : cst (TGate.mk (k : Int) (a : Int) (b : Int)) = if k = 5 then 3 else 1 := by
   unfold cst
   simp only
   by_cases h5 : k = 5
   ·subst h5; rfl
   ·rw [if_neg (by omega), if_neg h5]
  omega
/-- The images of the wires before q are the wires' own. -/
def Fx (n q : Nat) (t : TTableau) : Prop := ∀ j, j < q → BB t j = (2 ^ j, 0) ∧ BB t (n + j) = (0, 2 ^ j)
theorem act_id {k a b : Nat} {p : Nat × Nat} (h1 : p.1.testBit a = false) (h2 : p.2.testBit a = false) (h3 : k = 9 → p.2.testBit b = false) : actB k a b p = p := by
 unfold actB
 split
 ·unfold aH; rw [h1, h2]; simp
 ·split
  ·unfold aS; rw [h1]; simp
  ·split
   ·rename_i h9
    unfold aC; rw [h1, h3 h9]; simp
   ·rfl
theorem two_bit {j a : Nat} (h : j ≠ a) : (2 ^ j).testBit a = false := by rw [Nat.testBit_two_pow]; exact decide_eq_false h
theorem fx_act {n q k a b : Nat} {t t' : TTableau} (hq : q ≤ n) (h : Fx n q t) (ha : q ≤ a) (hb : k = 9 → q ≤ b) (hact : ∀ r, r < 2 * n → BB t' r = actB k a b (BB t r)) : Fx n q t' := fun j hj => by
 obtain ⟨h1, h2⟩ := h j hj
 have hja : j ≠ a := by omega
 constructor
 ·rw [hact j (by omega), h1]
  exact act_id (two_bit hja) (Nat.zero_testBit a) (fun _ => Nat.zero_testBit b)
 ·rw [hact (n + j) (by omega), h2]
  exact act_id (Nat.zero_testBit a) (two_bit hja) (fun h9 => two_bit (by have := hb h9; omega))
theorem omT_far {j i : Nat} (h : j ≠ i) (p : Nat × Nat) : omT i p (2 ^ j, 0) = false ∧ omT i p (0, 2 ^ j) = false := by
 unfold omT
 simp only [two_bit h, Nat.zero_testBit, Bool.and_false, Bool.xor_false]
 exact ⟨trivial, trivial⟩
theorem om_unit {j : Nat} (hj : j < 5) (p : Nat × Nat) : om p (2 ^ j, 0) = p.2.testBit j ∧ om p (0, 2 ^ j) = p.1.testBit j := by
 have hs : omT j p (2 ^ j, 0) = p.2.testBit j ∧ omT j p (0, 2 ^ j) = p.1.testBit j := by
  unfold omT
  simp [Nat.testBit_two_pow]
 have h : ∀ i, i ≠ j → omT i p (2 ^ j, 0) = false ∧ omT i p (0, 2 ^ j) = false := fun i hi => omT_far (Ne.symm hi) p
 have : j = 0 ∨ j = 1 ∨ j = 2 ∨ j = 3 ∨ j = 4 := by omega
 unfold om
 rcases this with rfl | rfl | rfl | rfl | rfl
 ·rw [hs.1, hs.2, (h 1 (by decide)).1, (h 1 (by decide)).2, (h 2 (by decide)).1, (h 2 (by decide)).2, (h 3 (by decide)).1, (h 3 (by decide)).2, (h 4 (by decide)).1, (h 4 (by decide)).2]; simp
 ·rw [hs.1, hs.2, (h 0 (by decide)).1, (h 0 (by decide)).2, (h 2 (by decide)).1, (h 2 (by decide)).2, (h 3 (by decide)).1, (h 3 (by decide)).2, (h 4 (by decide)).1, (h 4 (by decide)).2]; simp
 ·rw [hs.1, hs.2, (h 0 (by decide)).1, (h 0 (by decide)).2, (h 1 (by decide)).1, (h 1 (by decide)).2, (h 3 (by decide)).1, (h 3 (by decide)).2, (h 4 (by decide)).1, (h 4 (by decide)).2]; simp
 ·rw [hs.1, hs.2, (h 0 (by decide)).1, (h 0 (by decide)).2, (h 1 (by decide)).1, (h 1 (by decide)).2, (h 2 (by decide)).1, (h 2 (by decide)).2, (h 4 (by decide)).1, (h 4 (by decide)).2]; simp
 ·rw [hs.1, hs.2, (h 0 (by decide)).1, (h 0 (by decide)).2, (h 1 (by decide)).1, (h 1 (by decide)).2, (h 2 (by decide)).1, (h 2 (by decide)).2, (h 3 (by decide)).1, (h 3 (by decide)).2]; simp
/-- An image of a wire from q on has nothing on the wires before. -/
theorem low_free {n q r : Nat} {t : TTableau} (h : Sy t n) (hf : Fx n q t) (hq : q ≤ n) (hr : (q ≤ r ∧ r < n) ∨ (n + q ≤ r ∧ r < 2 * n)) {j : Nat} (hj : j < q) : (BB t r).1.testBit j = false ∧ (BB t r).2.testBit j = false := by
 obtain ⟨h1, h2⟩ := hf j hj
 have hn := h.ok.hn
 have symm : ∀ p p' : Nat × Nat, om p p' = om p' p := fun p p' => by
  have e : ∀ i, omT i p p' = omT i p' p := fun i => by
   unfold omT
   cases p.1.testBit i <;> cases p.2.testBit i <;> cases p'.1.testBit i <;> cases p'.2.testBit i <;> rfl
  unfold om
  rw [e, e, e, e, e]
 constructor
 ·rw [← (om_unit (show j < 5 by omega) (BB t r)).2, ← h2]
  rcases Nat.lt_or_ge r (n + j) with h3 | h3
  ·rw [symm, h.om (n + j) r h3 (by omega)]; exact decide_eq_false (by omega)
  ·rw [h.om r (n + j) (by omega) (by omega)]; exact decide_eq_false (by omega)
 ·rw [← (om_unit (show j < 5 by omega) (BB t r)).1, ← h1, h.om r j (by omega) (by omega)]
  exact decide_eq_false (by omega)

def lc (a b : Bool) : Int := if a then (if b then 89 else 88) else (if b then 90 else 73)
theorem lc_tab : ∀ a b : Bool, getI ([73, 88, 90, 89] : List UInt8) ((if a then 1 else 0) + 2 * (if b then 1 else 0)) = some (UInt8.ofNat (lc a b).toNat) := by decide +kernel
theorem lc_nat : ∀ a b : Bool, (((UInt8.ofNat (lc a b).toNat).toNat : Nat) : Int) = lc a b := by decide +kernel
theorem lc_spec : ∀ a b : Bool, (lc a b == 90) = (!a && b) ∧ (lc a b == 89) = (a && b) ∧ (lc a b == 88) = (a && !b) ∧ ((((if a then 1 else 0) + 2 * (if b then 1 else 0) : Int)) == 2) = (!a && b) ∧ ((((if a then 1 else 0) + 2 * (if b then 1 else 0) : Int)) == 3) = (a && b) ∧ ((((if a then 1 else 0) + 2 * (if b then 1 else 0) : Int)) == 1) = (a && !b) := by decide
theorem letter_impl {p : TPauli} {x z : Nat} (h : PaOk p x z) {q : Nat} (hq : q ≤ 40) : F_impl_letterOf p (q : Int) = some (lc (x.testBit q) (z.testBit q)) := by
 have sh : ∀ w : Nat, w < 32 → bits .and .i64 (shrK .i64 (w : Int) (q : Int)) 1 = bitZ w q := fun w hw => by
  have hd : w / 2 ^ q < 9223372036854775808 := Nat.lt_of_le_of_lt (Nat.div_le_self _ _) (by omega)
  rw [shr_i w q (by omega), show (1 : Int) = ((1 : Nat) : Int) from rfl, and_i hd (by decide), Nat.and_one_is_mod]
  unfold bitZ
  rw [Nat.testBit_eq_decide_div_mod_eq]
  rcases Nat.mod_two_eq_zero_or_one (w / 2 ^ q) with h | h <;> simp [h]
 have b1 : 0 ≤ bitZ x q ∧ bitZ x q ≤ 1 := by unfold bitZ; split <;> decide
 have b2 : 0 ≤ bitZ z q ∧ bitZ z q ≤ 1 := by unfold bitZ; split <;> decide
 unfold F_impl_letterOf
 rw [chk_t (by omega), chk_t (by omega), h.ex, h.ez, sh x h.hx, sh z h.hz, wrap_i64 (a := 2 * bitZ z q) ⟨by omega, by omega⟩, wrap_i64 ⟨by omega, by omega⟩]
 unfold bitZ
 rw [lc_tab, Option.bind_some, lc_nat]
theorem letter_spec {p : TPauli} {x z : Nat} (h : PaOk p x z) {q : Nat} (hq : q ≤ 40) : F_spec_l7Letter p (q : Int) = some ((if x.testBit q then 1 else 0) + 2 * (if z.testBit q then 1 else 0)) := by
 rw [ltr_spec h.hx h.hz p h.ex h.ez hq]; rfl
theorem gd_mono {n : Nat} {gs : List TGate} {m m' : Nat} (h : Gd n gs m) (hm : m ≤ m') : Gd n gs m' := ⟨h.ok, Nat.le_trans h.co hm⟩
/-- What a step on wire s comes to. -/
structure Stp (n s : Nat) (t : TTableau) (t' : TTableau) (gs' : List TGate) (m : Nat) : Prop where
 sy : Sy t' n
 gd : Gd n gs' m
 off : ∀ r, r < 2 * n → (BB t r).1.testBit s = false → (BB t r).2.testBit s = false → BB t' r = BB t r
theorem cl_x {t : TTableau} {n q s : Nat} (h : Sy t n) (hq : q < n) (hs : s < n) {gs : List TGate} {m : Nat} (hd : Gd n gs m) (hm : m ≤ 9000) :
  ∃ t' gs', F_spec_l8Synthesize_l2 (q : Int) (t.Qubits, t.XImages, t.ZImages, gs, (s : Int)) = some (.nx (t'.Qubits, t'.XImages, t'.ZImages, gs', ((s + 1 : Nat) : Int))) ∧
   F_impl_SynthesizeClifford_l2 (q : Int) (t.Qubits, t.XImages, t.ZImages, gs, (s : Int)) = some (.nx (t'.Qubits, t'.XImages, t'.ZImages, gs', ((s + 1 : Nat) : Int))) ∧ Stp n s t t' gs' (m + 3) ∧
   (BB t' q).2.testBit s = false ∧ ∀ j, j ≠ s → (BB t' q).1.testBit j = (BB t q).1.testBit j ∧ (BB t' q).2.testBit j = (BB t q).2.testBit j := by
 have hn := h.ok.hn
 obtain ⟨p, gp, op⟩ := h.ok.px q hq
 have hB : BB t q = (xB t.XImages q, zB t.XImages q) := BB_x h.ok hq
 have hl := letter_spec op (q := s) (by omega)
 have hi := letter_impl op (q := s) (by omega)
 obtain ⟨c90, c89, _, c2, c3, _⟩ := lc_spec ((xB t.XImages q).testBit s) ((zB t.XImages q).testBit s)
 have hw : IntKind.i64.wrap ((s : Int) + 1) = ((s + 1 : Nat) : Int) := wrap_i64 ⟨by omega, by omega⟩
 have hT : TTableau.mk t.Qubits t.XImages t.ZImages = t := rfl
 have hP : TPauli.mk p.Phase p.X p.Z = p := rfl
 have hlt : decide ((s : Int) < t.Qubits) = true := by rw [h.ok.qb]; exact decide_eq_true (by omega)
 rw [hB]
 unfold F_spec_l8Synthesize_l2 F_impl_SynthesizeClifford_l2
 simp only
 rw [hlt, getI_nat, gp]
 simp only [cond_true, Option.bind_some, hP, hl, hi, hT, c90, c89, c2]
 cases hz : (zB t.XImages q).testBit s with
 | false =>
  rw [hz] at c3
  simp only [Bool.and_false, cond_false, Option.bind_some]
  rw [getI_nat, gp]
  simp only [Option.bind_some, hP, hl, hz, c3, Bool.and_false, cond_false, hw]
  exact ⟨t, gs, rfl, rfl, ⟨h, gd_mono hd (by omega), fun _ _ _ _ => rfl⟩, by rw [hB]; exact hz, fun j _ => by rw [hB]; exact ⟨rfl, rfl⟩⟩
 | true =>
  cases hx : (xB t.XImages q).testBit s with
  | false =>
   obtain ⟨t', gs', e1, e2, e3, e4, e5⟩ := sy_add h (k := 1) (a := s) (b := 0) ⟨hs, .inl ⟨.inl rfl, rfl⟩⟩ hd (by omega)
   obtain ⟨p', gp', op'⟩ := e3.ok.px q hq
   have hB' : BB t' q = (xB t'.XImages q, zB t'.XImages q) := BB_x e3.ok hq
   have hact := e5 q (by omega)
   rw [hB] at hact
   have hbit := aH_bit s s (xB t.XImages q, zB t.XImages q)
   have hz' : (zB t'.XImages q).testBit s = false := by
    have := hbit.2
    rw [if_pos rfl] at this
    have h2 : (BB t' q).2 = zB t'.XImages q := by rw [hB']
    rw [← h2, hact]
    exact this.trans hx
   have hl' := letter_spec op' (q := s) (by omega)
   have hP' : TPauli.mk p'.Phase p'.X p'.Z = p' := rfl
   have c3' := (lc_spec ((xB t'.XImages q).testBit s) ((zB t'.XImages q).testBit s)).2.2.2.2.1
   rw [hz', Bool.and_false] at c3'
   rw [hz'] at hl'
   simp only [Bool.not_false, Bool.true_and, cond_true]
   have e1' : F_spec_l8R_add (Tl8R.mk t gs) 1 (s : Int) 0 = some (Tl8R.mk t' gs') := e1
   have e2' : F_impl_reducer_add (Treducer.mk t gs) 1 (s : Int) 0 = some (Treducer.mk t' gs') := e2
   rw [e1', e2']
   simp only [Option.bind_some]
   rw [getI_nat, gp']
   simp only [Option.bind_some, hP', hl', c3', cond_false, hw]
   refine ⟨t', gs', rfl, rfl, ⟨e3, gd_mono e4 (by simp), fun r hr f1 f2 => ?_⟩, ?_, fun j hj => ?_⟩
   ·rw [e5 r hr]; exact act_id f1 f2 (fun h9 => by cases h9)
   ·rw [hB']; exact hz'
   ·rw [hact]
    have := aH_bit s j (xB t.XImages q, zB t.XImages q)
    rw [if_neg (Ne.symm hj), if_neg (Ne.symm hj)] at this
    exact this
  | true =>
   obtain ⟨t', gs', e1, e2, e3, e4, e5⟩ := sy_add h (k := 5) (a := s) (b := 0) ⟨hs, .inl ⟨.inr (.inr (.inr rfl)), rfl⟩⟩ hd (by omega)
   have hact := e5 q (by omega)
   rw [hB] at hact
   rw [hz, hx] at c3
   simp only [Bool.not_true, Bool.false_and, Bool.and_self, cond_true, cond_false, Option.bind_some]
   rw [getI_nat, gp]
   have e1' : F_spec_l8R_add (Tl8R.mk t gs) 5 (s : Int) 0 = some (Tl8R.mk t' gs') := e1
   have e2' : F_impl_reducer_add (Treducer.mk t gs) 5 (s : Int) 0 = some (Treducer.mk t' gs') := e2
   rw [hx, hz] at hl
   simp only [Option.bind_some, hP, hl, c3, Bool.and_self, cond_true, e1', e2', hw]
   refine ⟨t', gs', rfl, rfl, ⟨e3, gd_mono e4 (by simp), fun r hr f1 f2 => ?_⟩, ?_, fun j hj => ?_⟩
   ·rw [e5 r hr]; exact act_id f1 f2 (fun h9 => by cases h9)
   ·rw [hact]
    have := (aS_bit s s (xB t.XImages q, zB t.XImages q)).2
    rw [if_pos rfl] at this
    exact this.trans (by simp only; rw [hz, hx]; rfl)
   ·rw [hact]
    have := aS_bit s j (xB t.XImages q, zB t.XImages q)
    rw [if_neg (Ne.symm hj)] at this
    exact this
theorem cl_z {t : TTableau} {n q s : Nat} (h : Sy t n) (hq : q < n) (hs : s < n) {gs : List TGate} {m : Nat} (hd : Gd n gs m) (hm : m ≤ 9000) :
  ∃ t' gs', F_spec_l8Synthesize_l5 (q : Int) (t.Qubits, t.XImages, t.ZImages, gs, (s : Int)) = some (.nx (t'.Qubits, t'.XImages, t'.ZImages, gs', ((s + 1 : Nat) : Int))) ∧
   F_impl_SynthesizeClifford_l5 (q : Int) (t.Qubits, t.XImages, t.ZImages, gs, (s : Int)) = some (.nx (t'.Qubits, t'.XImages, t'.ZImages, gs', ((s + 1 : Nat) : Int))) ∧ Stp n s t t' gs' (m + 3) ∧
   (BB t' (n + q)).2.testBit s = false ∧ ∀ j, j ≠ s → (BB t' (n + q)).1.testBit j = (BB t (n + q)).1.testBit j ∧ (BB t' (n + q)).2.testBit j = (BB t (n + q)).2.testBit j := by
 have hn := h.ok.hn
 obtain ⟨p, gp, op⟩ := h.ok.pz q hq
 have hB : BB t (n + q) = (xB t.ZImages q, zB t.ZImages q) := BB_z h.ok
 have hl := letter_spec op (q := s) (by omega)
 have hi := letter_impl op (q := s) (by omega)
 obtain ⟨c90, c89, _, c2, c3, _⟩ := lc_spec ((xB t.ZImages q).testBit s) ((zB t.ZImages q).testBit s)
 have hw : IntKind.i64.wrap ((s : Int) + 1) = ((s + 1 : Nat) : Int) := wrap_i64 ⟨by omega, by omega⟩
 have hT : TTableau.mk t.Qubits t.XImages t.ZImages = t := rfl
 have hP : TPauli.mk p.Phase p.X p.Z = p := rfl
 have hlt : decide ((s : Int) < t.Qubits) = true := by rw [h.ok.qb]; exact decide_eq_true (by omega)
 rw [hB]
 unfold F_spec_l8Synthesize_l5 F_impl_SynthesizeClifford_l5
 simp only
 rw [hlt, getI_nat, gp]
 simp only [cond_true, Option.bind_some, hP, hl, hi, hT, c90, c89, c2]
 cases hz : (zB t.ZImages q).testBit s with
 | false =>
  rw [hz] at c3
  simp only [Bool.and_false, cond_false, Option.bind_some]
  rw [getI_nat, gp]
  simp only [Option.bind_some, hP, hl, hz, c3, Bool.and_false, cond_false, hw]
  exact ⟨t, gs, rfl, rfl, ⟨h, gd_mono hd (by omega), fun _ _ _ _ => rfl⟩, by rw [hB]; exact hz, fun j _ => by rw [hB]; exact ⟨rfl, rfl⟩⟩
 | true =>
  cases hx : (xB t.ZImages q).testBit s with
  | false =>
   obtain ⟨t', gs', e1, e2, e3, e4, e5⟩ := sy_add h (k := 1) (a := s) (b := 0) ⟨hs, .inl ⟨.inl rfl, rfl⟩⟩ hd (by omega)
   obtain ⟨p', gp', op'⟩ := e3.ok.pz q hq
   have hB' : BB t' (n + q) = (xB t'.ZImages q, zB t'.ZImages q) := BB_z e3.ok
   have hact := e5 (n + q) (by omega)
   rw [hB] at hact
   have hbit := aH_bit s s (xB t.ZImages q, zB t.ZImages q)
   have hz' : (zB t'.ZImages q).testBit s = false := by
    have := hbit.2
    rw [if_pos rfl] at this
    have h2 : (BB t' (n + q)).2 = zB t'.ZImages q := by rw [hB']
    rw [← h2, hact]
    exact this.trans hx
   have hl' := letter_spec op' (q := s) (by omega)
   have hP' : TPauli.mk p'.Phase p'.X p'.Z = p' := rfl
   have c3' := (lc_spec ((xB t'.ZImages q).testBit s) ((zB t'.ZImages q).testBit s)).2.2.2.2.1
   rw [hz', Bool.and_false] at c3'
   rw [hz'] at hl'
   simp only [Bool.not_false, Bool.true_and, cond_true]
   have e1' : F_spec_l8R_add (Tl8R.mk t gs) 1 (s : Int) 0 = some (Tl8R.mk t' gs') := e1
   have e2' : F_impl_reducer_add (Treducer.mk t gs) 1 (s : Int) 0 = some (Treducer.mk t' gs') := e2
   rw [e1', e2']
   simp only [Option.bind_some]
   rw [getI_nat, gp']
   simp only [Option.bind_some, hP', hl', c3', cond_false, hw]
   refine ⟨t', gs', rfl, rfl, ⟨e3, gd_mono e4 (by simp), fun r hr f1 f2 => ?_⟩, ?_, fun j hj => ?_⟩
   ·rw [e5 r hr]; exact act_id f1 f2 (fun h9 => by cases h9)
   ·rw [hB']; exact hz'
   ·rw [hact]
    have := aH_bit s j (xB t.ZImages q, zB t.ZImages q)
    rw [if_neg (Ne.symm hj), if_neg (Ne.symm hj)] at this
    exact this
  | true =>
   obtain ⟨t', gs', e1, e2, e3, e4, e5⟩ := sy_add h (k := 5) (a := s) (b := 0) ⟨hs, .inl ⟨.inr (.inr (.inr rfl)), rfl⟩⟩ hd (by omega)
   have hact := e5 (n + q) (by omega)
   rw [hB] at hact
   rw [hz, hx] at c3
   simp only [Bool.not_true, Bool.false_and, Bool.and_self, cond_true, cond_false, Option.bind_some]
   rw [getI_nat, gp]
   have e1' : F_spec_l8R_add (Tl8R.mk t gs) 5 (s : Int) 0 = some (Tl8R.mk t' gs') := e1
   have e2' : F_impl_reducer_add (Treducer.mk t gs) 5 (s : Int) 0 = some (Treducer.mk t' gs') := e2
   rw [hx, hz] at hl
   simp only [Option.bind_some, hP, hl, c3, Bool.and_self, cond_true, e1', e2', hw]
   refine ⟨t', gs', rfl, rfl, ⟨e3, gd_mono e4 (by simp), fun r hr f1 f2 => ?_⟩, ?_, fun j hj => ?_⟩
   ·rw [e5 r hr]; exact act_id f1 f2 (fun h9 => by cases h9)
   ·rw [hact]
    have := (aS_bit s s (xB t.ZImages q, zB t.ZImages q)).2
    rw [if_pos rfl] at this
    exact this.trans (by simp only; rw [hz, hx]; rfl)
   ·rw [hact]
    have := aS_bit s j (xB t.ZImages q, zB t.ZImages q)
    rw [if_neg (Ne.symm hj)] at this
    exact this

theorem cn_x {t : TTableau} {n q s : Nat} (h : Sy t n) (hq : q < n) (hs : s < n) (hqs : q < s) {gs : List TGate} {m : Nat} (hd : Gd n gs m) (hm : m ≤ 9000) (hxq : (BB t q).1.testBit q = true) (hz0 : (BB t q).2 = 0) :
  ∃ t' gs', F_spec_l8Synthesize_l4 (q : Int) (t.Qubits, t.XImages, t.ZImages, gs, (s : Int)) = some (.nx (t'.Qubits, t'.XImages, t'.ZImages, gs', ((s + 1 : Nat) : Int))) ∧
   F_impl_SynthesizeClifford_l4 (q : Int) (t.Qubits, t.XImages, t.ZImages, gs, (s : Int)) = some (.nx (t'.Qubits, t'.XImages, t'.ZImages, gs', ((s + 1 : Nat) : Int))) ∧ Sy t' n ∧ Gd n gs' (m + 3) ∧
   (∀ r, r < 2 * n → (BB t r).1.testBit q = false → (BB t r).2.testBit s = false → BB t' r = BB t r) ∧
   (BB t' q).1.testBit s = false ∧ (BB t' q).2 = 0 ∧ ∀ j, j ≠ s → (BB t' q).1.testBit j = (BB t q).1.testBit j := by
 have hn := h.ok.hn
 obtain ⟨p, gp, op⟩ := h.ok.px q hq
 have hB : BB t q = (xB t.XImages q, zB t.XImages q) := BB_x h.ok hq
 have hl := letter_spec op (q := s) (by omega)
 have hi := letter_impl op (q := s) (by omega)
 obtain ⟨_, _, c88, _, _, c1⟩ := lc_spec ((xB t.XImages q).testBit s) ((zB t.XImages q).testBit s)
 have hw : IntKind.i64.wrap ((s : Int) + 1) = ((s + 1 : Nat) : Int) := wrap_i64 ⟨by omega, by omega⟩
 have hT : TTableau.mk t.Qubits t.XImages t.ZImages = t := rfl
 have hP : TPauli.mk p.Phase p.X p.Z = p := rfl
 have hlt : decide ((s : Int) < t.Qubits) = true := by rw [h.ok.qb]; exact decide_eq_true (by omega)
 rw [hB] at hxq hz0 ⊢
 simp only at hxq hz0
 have hzs : (zB t.XImages q).testBit s = false := by rw [hz0]; exact Nat.zero_testBit s
 rw [hzs] at c88 c1
 unfold F_spec_l8Synthesize_l4 F_impl_SynthesizeClifford_l4
 simp only
 rw [hlt, getI_nat, gp]
 simp only [cond_true, Option.bind_some, hP, hl, hi, hT, hzs, c88, c1, Bool.not_false, Bool.and_true]
 cases hx : (xB t.XImages q).testBit s with
 | false =>
  simp only [cond_false, Option.bind_some, hw]
  exact ⟨t, gs, rfl, rfl, h, gd_mono hd (by omega), fun _ _ _ _ => rfl, by rw [hB]; exact hx, by rw [hB]; exact hz0, fun j _ => by rw [hB]⟩
 | true =>
  obtain ⟨t', gs', e1, e2, e3, e4, e5⟩ := sy_add h (k := 9) (a := q) (b := s) ⟨hq, .inr ⟨rfl, hs, by omega⟩⟩ hd (by omega)
  have hact := e5 q (by omega)
  rw [hB] at hact
  have e1' : F_spec_l8R_add (Tl8R.mk t gs) 9 (q : Int) (s : Int) = some (Tl8R.mk t' gs') := e1
  have e2' : F_impl_reducer_add (Treducer.mk t gs) 9 (q : Int) (s : Int) = some (Treducer.mk t' gs') := e2
  simp only [cond_true, e1', e2', Option.bind_some, hw]
  refine ⟨t', gs', rfl, rfl, e3, gd_mono e4 (by simp), fun r hr f1 f2 => ?_, ?_, ?_, fun j hj => ?_⟩
  ·rw [e5 r hr]
   show aC q s (BB t r) = BB t r
   unfold aC
   rw [f1, f2]; simp
  ·rw [hact]
   have := (aC_bit q s s (xB t.XImages q, zB t.XImages q)).1
   rw [if_pos rfl] at this
   exact this.trans (by simp only; rw [hx, hxq]; rfl)
  ·rw [hact]
   show (aC q s (xB t.XImages q, zB t.XImages q)).2 = 0
   unfold aC
   simp only [hz0, Nat.zero_testBit, Bool.false_eq_true, if_false, Nat.xor_zero]
  ·rw [hact]
   have := (aC_bit q s j (xB t.XImages q, zB t.XImages q)).1
   rw [if_neg (Ne.symm hj)] at this
   exact this
theorem cn_z {t : TTableau} {n q s : Nat} (h : Sy t n) (hq : q < n) (hs : s < n) (hqs : q < s) {gs : List TGate} {m : Nat} (hd : Gd n gs m) (hm : m ≤ 9000) (hxq : (BB t (n + q)).1.testBit q = true) (hz0 : (BB t (n + q)).2 = 0) :
  ∃ t' gs', F_spec_l8Synthesize_l6 (q : Int) (t.Qubits, t.XImages, t.ZImages, gs, (s : Int)) = some (.nx (t'.Qubits, t'.XImages, t'.ZImages, gs', ((s + 1 : Nat) : Int))) ∧
   F_impl_SynthesizeClifford_l6 (q : Int) (t.Qubits, t.XImages, t.ZImages, gs, (s : Int)) = some (.nx (t'.Qubits, t'.XImages, t'.ZImages, gs', ((s + 1 : Nat) : Int))) ∧ Sy t' n ∧ Gd n gs' (m + 3) ∧
   (∀ r, r < 2 * n → (BB t r).1.testBit q = false → (BB t r).2.testBit s = false → BB t' r = BB t r) ∧
   (BB t' (n + q)).1.testBit s = false ∧ (BB t' (n + q)).2 = 0 ∧ ∀ j, j ≠ s → (BB t' (n + q)).1.testBit j = (BB t (n + q)).1.testBit j := by
 have hn := h.ok.hn
 obtain ⟨p, gp, op⟩ := h.ok.pz q hq
 have hB : BB t (n + q) = (xB t.ZImages q, zB t.ZImages q) := BB_z h.ok
 have hl := letter_spec op (q := s) (by omega)
 have hi := letter_impl op (q := s) (by omega)
 obtain ⟨_, _, c88, _, _, c1⟩ := lc_spec ((xB t.ZImages q).testBit s) ((zB t.ZImages q).testBit s)
 have hw : IntKind.i64.wrap ((s : Int) + 1) = ((s + 1 : Nat) : Int) := wrap_i64 ⟨by omega, by omega⟩
 have hT : TTableau.mk t.Qubits t.XImages t.ZImages = t := rfl
 have hP : TPauli.mk p.Phase p.X p.Z = p := rfl
 have hlt : decide ((s : Int) < t.Qubits) = true := by rw [h.ok.qb]; exact decide_eq_true (by omega)
 rw [hB] at hxq hz0 ⊢
 simp only at hxq hz0
 have hzs : (zB t.ZImages q).testBit s = false := by rw [hz0]; exact Nat.zero_testBit s
 rw [hzs] at c88 c1
 unfold F_spec_l8Synthesize_l6 F_impl_SynthesizeClifford_l6
 simp only
 rw [hlt, getI_nat, gp]
 simp only [cond_true, Option.bind_some, hP, hl, hi, hT, hzs, c88, c1, Bool.not_false, Bool.and_true]
 cases hx : (xB t.ZImages q).testBit s with
 | false =>
  simp only [cond_false, Option.bind_some, hw]
  exact ⟨t, gs, rfl, rfl, h, gd_mono hd (by omega), fun _ _ _ _ => rfl, by rw [hB]; exact hx, by rw [hB]; exact hz0, fun j _ => by rw [hB]⟩
 | true =>
  obtain ⟨t', gs', e1, e2, e3, e4, e5⟩ := sy_add h (k := 9) (a := q) (b := s) ⟨hq, .inr ⟨rfl, hs, by omega⟩⟩ hd (by omega)
  have hact := e5 (n + q) (by omega)
  rw [hB] at hact
  have e1' : F_spec_l8R_add (Tl8R.mk t gs) 9 (q : Int) (s : Int) = some (Tl8R.mk t' gs') := e1
  have e2' : F_impl_reducer_add (Treducer.mk t gs) 9 (q : Int) (s : Int) = some (Treducer.mk t' gs') := e2
  simp only [cond_true, e1', e2', Option.bind_some, hw]
  refine ⟨t', gs', rfl, rfl, e3, gd_mono e4 (by simp), fun r hr f1 f2 => ?_, ?_, ?_, fun j hj => ?_⟩
  ·rw [e5 r hr]
   show aC q s (BB t r) = BB t r
   unfold aC
   rw [f1, f2]; simp
  ·rw [hact]
   have := (aC_bit q s s (xB t.ZImages q, zB t.ZImages q)).1
   rw [if_pos rfl] at this
   exact this.trans (by simp only; rw [hx, hxq]; rfl)
  ·rw [hact]
   show (aC q s (xB t.ZImages q, zB t.ZImages q)).2 = 0
   unfold aC
   simp only [hz0, Nat.zero_testBit, Bool.false_eq_true, if_false, Nat.xor_zero]
  ·rw [hact]
   have := (aC_bit q s j (xB t.ZImages q, zB t.ZImages q)).1
   rw [if_neg (Ne.symm hj)] at this
   exact this
/-- A loop over the wires, by both. -/
theorem loop_s {ρ τ : Type} {F : (Int × List TPauli × List TPauli × List TGate × Int) → Option (Ex (Int × List TPauli × List TPauli × List TGate × Int) ρ)} {G : (Int × List TPauli × List TPauli × List TGate × Int) → Option (Ex (Int × List TPauli × List TPauli × List TGate × Int) τ)} {n lo : Nat} (I : Nat → TTableau → Prop)
  (step : ∀ s t gs m, lo ≤ s → s < n → I s t → Sy t n → Gd n gs m → m ≤ 9000 → ∃ t' gs', F (t.Qubits, t.XImages, t.ZImages, gs, (s : Int)) = some (.nx (t'.Qubits, t'.XImages, t'.ZImages, gs', ((s + 1 : Nat) : Int))) ∧ G (t.Qubits, t.XImages, t.ZImages, gs, (s : Int)) = some (.nx (t'.Qubits, t'.XImages, t'.ZImages, gs', ((s + 1 : Nat) : Int))) ∧ Sy t' n ∧ Gd n gs' (m + 3) ∧ I (s + 1) t')
  (stop : ∀ t gs, Sy t n → F (t.Qubits, t.XImages, t.ZImages, gs, (n : Int)) = some (.br (t.Qubits, t.XImages, t.ZImages, gs, (n : Int))) ∧ G (t.Qubits, t.XImages, t.ZImages, gs, (n : Int)) = some (.br (t.Qubits, t.XImages, t.ZImages, gs, (n : Int)))) :
  ∀ (d s k : Nat) (t : TTableau) (gs : List TGate) (m : Nat), s + d = n → lo ≤ s → d < k → I s t → Sy t n → Gd n gs m → m + 3 * d ≤ 9000 →
   ∃ t' gs', whX F k (t.Qubits, t.XImages, t.ZImages, gs, (s : Int)) = some (.inl (t'.Qubits, t'.XImages, t'.ZImages, gs', (n : Int))) ∧ whX G k (t.Qubits, t.XImages, t.ZImages, gs, (s : Int)) = some (.inl (t'.Qubits, t'.XImages, t'.ZImages, gs', (n : Int))) ∧ Sy t' n ∧ Gd n gs' (m + 3 * d) ∧ I n t' := by
 intro d
 induction d with
 | zero =>
  intro s k t gs m hs _ hk hI hy hd _
  obtain ⟨k, rfl⟩ : ∃ k', k = k' + 1 := ⟨k - 1, by omega⟩
  have : s = n := by omega
  subst this
  obtain ⟨e1, e2⟩ := stop t gs hy
  exact ⟨t, gs, by simp only [whX, e1, Option.bind_some], by simp only [whX, e2, Option.bind_some], hy, hd, hI⟩
 | succ d ih =>
  intro s k t gs m hs hlo hk hI hy hd hm
  obtain ⟨k, rfl⟩ : ∃ k', k = k' + 1 := ⟨k - 1, by omega⟩
  obtain ⟨t1, gs1, e1, e2, e3, e4, e5⟩ := step s t gs m hlo (by omega) hI hy hd (by omega)
  obtain ⟨t2, gs2, f1, f2, f3, f4, f5⟩ := ih (s + 1) k t1 gs1 (m + 3) (by omega) (by omega) (by omega) e5 e3 e4 (by omega)
  refine ⟨t2, gs2, ?_, ?_, f3, gd_mono f4 (by omega), f5⟩
  ·simp only [whX, e1, Option.bind_some]; exact f1
  ·simp only [whX, e2, Option.bind_some]; exact f2
theorem unit_bits {q : Nat} {p : Nat × Nat} (h : p = (0, 2 ^ q)) {s : Nat} (hs : q ≠ s) : p.1.testBit s = false ∧ p.2.testBit s = false := by
 subst h; exact ⟨Nat.zero_testBit s, two_bit hs⟩
theorem fx_off {n q s : Nat} {t t' : TTableau} (hq : q ≤ n) (hs : q ≤ s) (h : Fx n q t) (off : ∀ r, r < 2 * n → (BB t r).1.testBit s = false → (BB t r).2.testBit s = false → BB t' r = BB t r) : Fx n q t' := fun j hj => by
 obtain ⟨h1, h2⟩ := h j hj
 constructor
 ·rw [off j (by omega) (by rw [h1]; exact two_bit (by omega)) (by rw [h1]; exact Nat.zero_testBit s)]; exact h1
 ·rw [off (n + j) (by omega) (by rw [h2]; exact Nat.zero_testBit s) (by rw [h2]; exact two_bit (by omega))]; exact h2
theorem fx_off2 {n q s : Nat} {t t' : TTableau} (hq : q ≤ n) (hs : q ≤ s) (h : Fx n q t) (off : ∀ r, r < 2 * n → (BB t r).1.testBit q = false → (BB t r).2.testBit s = false → BB t' r = BB t r) : Fx n q t' := fun j hj => by
 obtain ⟨h1, h2⟩ := h j hj
 constructor
 ·rw [off j (by omega) (by rw [h1]; exact two_bit (by omega)) (by rw [h1]; exact Nat.zero_testBit s)]; exact h1
 ·rw [off (n + j) (by omega) (by rw [h2]; exact Nat.zero_testBit q) (by rw [h2]; exact two_bit (by omega))]; exact h2
/-- The first loop: the image of X has no Z part. -/
theorem loop_2 {t : TTableau} {n q : Nat} (h : Sy t n) (hq : q < n) (hf : Fx n q t) {gs : List TGate} {m : Nat} (hd : Gd n gs m) (hm : m ≤ 8000) :
  ∃ t' gs', whX (F_spec_l8Synthesize_l2 (q : Int)) fuel (t.Qubits, t.XImages, t.ZImages, gs, (q : Int)) = some (.inl (t'.Qubits, t'.XImages, t'.ZImages, gs', (n : Int))) ∧ whX (F_impl_SynthesizeClifford_l2 (q : Int)) fuel (t.Qubits, t.XImages, t.ZImages, gs, (q : Int)) = some (.inl (t'.Qubits, t'.XImages, t'.ZImages, gs', (n : Int))) ∧ Sy t' n ∧ Gd n gs' (m + 15) ∧ Fx n q t' ∧ (BB t' q).2 = 0 := by
 have hn := h.ok.hn
 obtain ⟨t', gs', e1, e2, e3, e4, e5, e6⟩ := loop_s (lo := q) (fun s t => Fx n q t ∧ ∀ j, q ≤ j → j < s → (BB t q).2.testBit j = false) (fun s t gs m hlo hs hI hy hd hm => by
  obtain ⟨t1, gs1, a1, a2, a3, a4, a5⟩ := cl_x hy hq hs hd hm
  refine ⟨t1, gs1, a1, a2, a3.sy, a3.gd, fx_off (by omega) hlo hI.1 a3.off, fun j h1 h2 => ?_⟩
  by_cases hj : j = s
  ·subst hj; exact a4
  ·rw [(a5 j hj).2]; exact hI.2 j h1 (by omega)) (fun t gs hy => by
  have hlt : decide ((n : Int) < t.Qubits) = false := by rw [hy.ok.qb]; exact decide_eq_false (by omega)
  constructor
  ·unfold F_spec_l8Synthesize_l2; simp only; rw [hlt, cond_false]
  ·unfold F_impl_SynthesizeClifford_l2; simp only; rw [hlt, cond_false]) (n - q) q fuel t gs m (by omega) (Nat.le_refl q) (fuelB (by omega)) ⟨hf, fun j h1 h2 => by omega⟩ h hd (by omega)
 refine ⟨t', gs', e1, e2, e3, gd_mono e4 (by omega), e5, ?_⟩
 apply Nat.eq_of_testBit_eq
 intro j
 rw [Nat.zero_testBit]
 rcases Nat.lt_or_ge j q with h1 | h1
 ·exact (low_free e3 e5 (by omega) (.inl ⟨Nat.le_refl q, hq⟩) h1).2
 ·rcases Nat.lt_or_ge j n with h2 | h2
  ·exact e6 j h1 h2
  ·have := (e3.ok.lt q hq).1.2
   rw [BB_x e3.ok hq]
   exact Nat.testBit_lt_two_pow (Nat.lt_of_lt_of_le this (Nat.pow_le_pow_right (by decide) h2))
/-- The second loop: nothing but X on the wire. -/
theorem loop_4 {t : TTableau} {n q : Nat} (h : Sy t n) (hq : q < n) (hf : Fx n q t) (hz : (BB t q).2 = 0) (hx : (BB t q).1.testBit q = true) {gs : List TGate} {m : Nat} (hd : Gd n gs m) (hm : m ≤ 8000) :
  ∃ t' gs', whX (F_spec_l8Synthesize_l4 (q : Int)) fuel (t.Qubits, t.XImages, t.ZImages, gs, ((q + 1 : Nat) : Int)) = some (.inl (t'.Qubits, t'.XImages, t'.ZImages, gs', (n : Int))) ∧ whX (F_impl_SynthesizeClifford_l4 (q : Int)) fuel (t.Qubits, t.XImages, t.ZImages, gs, ((q + 1 : Nat) : Int)) = some (.inl (t'.Qubits, t'.XImages, t'.ZImages, gs', (n : Int))) ∧ Sy t' n ∧ Gd n gs' (m + 12) ∧ Fx n q t' ∧ BB t' q = (2 ^ q, 0) := by
 have hn := h.ok.hn
 obtain ⟨t', gs', e1, e2, e3, e4, e5, e6, e7, e8⟩ := loop_s (lo := q + 1) (fun s t => Fx n q t ∧ (BB t q).2 = 0 ∧ (BB t q).1.testBit q = true ∧ ∀ j, q < j → j < s → (BB t q).1.testBit j = false) (fun s t gs m hlo hs hI hy hd hm => by
  obtain ⟨i1, i2, i3, i4⟩ := hI
  obtain ⟨t1, gs1, a1, a2, a3, a4, a5, a6, a7, a8⟩ := cn_x hy hq hs (by omega) hd hm i3 i2
  refine ⟨t1, gs1, a1, a2, a3, a4, fx_off2 (by omega) (by omega) i1 a5, a7, by rw [a8 q (by omega)]; exact i3, fun j h1 h2 => ?_⟩
  by_cases hj : j = s
  ·subst hj; exact a6
  ·rw [a8 j hj]; exact i4 j h1 (by omega)) (fun t gs hy => by
  have hlt : decide ((n : Int) < t.Qubits) = false := by rw [hy.ok.qb]; exact decide_eq_false (by omega)
  constructor
  ·unfold F_spec_l8Synthesize_l4; simp only; rw [hlt, cond_false]
  ·unfold F_impl_SynthesizeClifford_l4; simp only; rw [hlt, cond_false]) (n - (q + 1)) (q + 1) fuel t gs m (by omega) (Nat.le_refl _) (fuelB (by omega)) ⟨hf, hz, hx, fun j h1 h2 => by omega⟩ h hd (by omega)
 refine ⟨t', gs', e1, e2, e3, gd_mono e4 (by omega), e5, Prod.ext ?_ e6⟩
 apply Nat.eq_of_testBit_eq
 intro j
 rw [Nat.testBit_two_pow]
 rcases Nat.lt_trichotomy j q with h1 | h1 | h1
 ·rw [(low_free e3 e5 (by omega) (.inl ⟨Nat.le_refl q, hq⟩) h1).1, decide_eq_false (by omega)]
 ·subst h1; rw [e7]; simp
 ·rw [decide_eq_false (by omega)]
  rcases Nat.lt_or_ge j n with h2 | h2
  ·exact e8 j h1 h2
  ·have := (e3.ok.lt q hq).1.1
   rw [BB_x e3.ok hq]
   exact Nat.testBit_lt_two_pow (Nat.lt_of_lt_of_le this (Nat.pow_le_pow_right (by decide) h2))
/-- The third loop: the image of Z has no Z part but on the wire. -/
theorem loop_5 {t : TTableau} {n q : Nat} (h : Sy t n) (hq : q < n) (hf : Fx n q t) (hb : BB t q = (0, 2 ^ q)) {gs : List TGate} {m : Nat} (hd : Gd n gs m) (hm : m ≤ 8000) :
  ∃ t' gs', whX (F_spec_l8Synthesize_l5 (q : Int)) fuel (t.Qubits, t.XImages, t.ZImages, gs, ((q + 1 : Nat) : Int)) = some (.inl (t'.Qubits, t'.XImages, t'.ZImages, gs', (n : Int))) ∧ whX (F_impl_SynthesizeClifford_l5 (q : Int)) fuel (t.Qubits, t.XImages, t.ZImages, gs, ((q + 1 : Nat) : Int)) = some (.inl (t'.Qubits, t'.XImages, t'.ZImages, gs', (n : Int))) ∧ Sy t' n ∧ Gd n gs' (m + 12) ∧ Fx n q t' ∧ BB t' q = (0, 2 ^ q) ∧ ∀ j, j ≠ q → (BB t' (n + q)).2.testBit j = false := by
 have hn := h.ok.hn
 obtain ⟨t', gs', e1, e2, e3, e4, e5, e6, e7⟩ := loop_s (lo := q + 1) (fun s t => Fx n q t ∧ BB t q = (0, 2 ^ q) ∧ ∀ j, q < j → j < s → (BB t (n + q)).2.testBit j = false) (fun s t gs m hlo hs hI hy hd hm => by
  obtain ⟨i1, i2, i3⟩ := hI
  obtain ⟨t1, gs1, a1, a2, a3, a4, a5⟩ := cl_z hy hq hs hd hm
  refine ⟨t1, gs1, a1, a2, a3.sy, a3.gd, fx_off (by omega) (by omega) i1 a3.off, ?_, fun j h1 h2 => ?_⟩
  ·obtain ⟨u1, u2⟩ := unit_bits i2 (s := s) (by omega)
   rw [a3.off q (by omega) u1 u2]; exact i2
  ·by_cases hj : j = s
   ·subst hj; exact a4
   ·rw [(a5 j hj).2]; exact i3 j h1 (by omega)) (fun t gs hy => by
  have hlt : decide ((n : Int) < t.Qubits) = false := by rw [hy.ok.qb]; exact decide_eq_false (by omega)
  constructor
  ·unfold F_spec_l8Synthesize_l5; simp only; rw [hlt, cond_false]
  ·unfold F_impl_SynthesizeClifford_l5; simp only; rw [hlt, cond_false]) (n - (q + 1)) (q + 1) fuel t gs m (by omega) (Nat.le_refl _) (fuelB (by omega)) ⟨hf, hb, fun j h1 h2 => by omega⟩ h hd (by omega)
 refine ⟨t', gs', e1, e2, e3, gd_mono e4 (by omega), e5, e6, fun j hj => ?_⟩
 rcases Nat.lt_or_ge j q with h1 | h1
 ·exact (low_free e3 e5 (by omega) (.inr ⟨Nat.le_refl _, by omega⟩) h1).2
 ·rcases Nat.lt_or_ge j n with h2 | h2
  ·exact e7 j (by omega) h2
  ·have := (e3.ok.lt q hq).2.2
   rw [BB_z e3.ok]
   exact Nat.testBit_lt_two_pow (Nat.lt_of_lt_of_le this (Nat.pow_le_pow_right (by decide) h2))
/-- The fourth loop. -/
theorem loop_6 {t : TTableau} {n q : Nat} (h : Sy t n) (hq : q < n) (hf : Fx n q t) (hb : BB t q = (0, 2 ^ q)) (hz : (BB t (n + q)).2 = 0) (hx : (BB t (n + q)).1.testBit q = true) {gs : List TGate} {m : Nat} (hd : Gd n gs m) (hm : m ≤ 8000) :
  ∃ t' gs', whX (F_spec_l8Synthesize_l6 (q : Int)) fuel (t.Qubits, t.XImages, t.ZImages, gs, ((q + 1 : Nat) : Int)) = some (.inl (t'.Qubits, t'.XImages, t'.ZImages, gs', (n : Int))) ∧ whX (F_impl_SynthesizeClifford_l6 (q : Int)) fuel (t.Qubits, t.XImages, t.ZImages, gs, ((q + 1 : Nat) : Int)) = some (.inl (t'.Qubits, t'.XImages, t'.ZImages, gs', (n : Int))) ∧ Sy t' n ∧ Gd n gs' (m + 12) ∧ Fx n q t' ∧ BB t' q = (0, 2 ^ q) ∧ BB t' (n + q) = (2 ^ q, 0) := by
 have hn := h.ok.hn
 obtain ⟨t', gs', e1, e2, e3, e4, e5, e6, e7, e8, e9⟩ := loop_s (lo := q + 1) (fun s t => Fx n q t ∧ BB t q = (0, 2 ^ q) ∧ (BB t (n + q)).2 = 0 ∧ (BB t (n + q)).1.testBit q = true ∧ ∀ j, q < j → j < s → (BB t (n + q)).1.testBit j = false) (fun s t gs m hlo hs hI hy hd hm => by
  obtain ⟨i1, i2, i3, i4, i5⟩ := hI
  obtain ⟨t1, gs1, a1, a2, a3, a4, a5, a6, a7, a8⟩ := cn_z hy hq hs (by omega) hd hm i4 i3
  refine ⟨t1, gs1, a1, a2, a3, a4, fx_off2 (by omega) (by omega) i1 a5, ?_, a7, by rw [a8 q (by omega)]; exact i4, fun j h1 h2 => ?_⟩
  ·rw [a5 q (by omega) (by rw [i2]; exact Nat.zero_testBit q) (by rw [i2]; exact two_bit (by omega))]; exact i2
  ·by_cases hj : j = s
   ·subst hj; exact a6
   ·rw [a8 j hj]; exact i5 j h1 (by omega)) (fun t gs hy => by
  have hlt : decide ((n : Int) < t.Qubits) = false := by rw [hy.ok.qb]; exact decide_eq_false (by omega)
  constructor
  ·unfold F_spec_l8Synthesize_l6; simp only; rw [hlt, cond_false]
  ·unfold F_impl_SynthesizeClifford_l6; simp only; rw [hlt, cond_false]) (n - (q + 1)) (q + 1) fuel t gs m (by omega) (Nat.le_refl _) (fuelB (by omega)) ⟨hf, hb, hz, hx, fun j h1 h2 => by omega⟩ h hd (by omega)
 refine ⟨t', gs', e1, e2, e3, gd_mono e4 (by omega), e5, e6, Prod.ext ?_ e7⟩
 apply Nat.eq_of_testBit_eq
 intro j
 rw [Nat.testBit_two_pow]
 rcases Nat.lt_trichotomy j q with h1 | h1 | h1
 ·rw [(low_free e3 e5 (by omega) (.inr ⟨Nat.le_refl _, by omega⟩) h1).1, decide_eq_false (by omega)]
 ·subst h1; rw [e8]; simp
 ·rw [decide_eq_false (by omega)]
  rcases Nat.lt_or_ge j n with h2 | h2
  ·exact e9 j h1 h2
  ·have := (e3.ok.lt q hq).2.1
   rw [BB_z e3.ok]
   exact Nat.testBit_lt_two_pow (Nat.lt_of_lt_of_le this (Nat.pow_le_pow_right (by decide) h2))

theorem first_bit (x : Nat) : ∀ b, (∃ j, j < b ∧ x.testBit j = true) → ∃ a, a < b ∧ x.testBit a = true ∧ ∀ j, j < a → x.testBit j = false
 | 0, ⟨j, h, _⟩ => absurd h (Nat.not_lt_zero j)
 | b + 1, ⟨j, hj, hx⟩ => by
  by_cases h : ∃ j, j < b ∧ x.testBit j = true
  ·obtain ⟨a, h1, h2, h3⟩ := first_bit x b h
   exact ⟨a, by omega, h2, h3⟩
  ·have hn : ∀ i, i < b → x.testBit i = false := fun i hi => by
    cases hb : x.testBit i with
    | false => rfl
    | true => exact absurd ⟨i, hi, hb⟩ h
   refine ⟨j, hj, hx, fun i hi => hn i (by omega)⟩
theorem om_zero (p : Nat × Nat) : om p (0, 0) = false := by
 unfold om omT
 simp only [Nat.zero_testBit, Bool.and_false, Bool.xor_false]
/-- The first X on the way. -/
theorem at_both {t : TTableau} {n q : Nat} (h : Sy t n) (hq : q < n) (hf : Fx n q t) (hz : (BB t q).2 = 0) :
  ∃ a, q ≤ a ∧ a < n ∧ whX (F_spec_l8Synthesize_l3 t.XImages (q : Int)) fuel (q : Int) = some (.inl (a : Int)) ∧ whX (F_impl_SynthesizeClifford_l3 t.Qubits t.XImages (q : Int)) fuel (q : Int) = some (.inl (a : Int)) ∧ (BB t q).1.testBit a = true ∧ ∀ j, j < a → (BB t q).1.testBit j = false := by
 have hn := h.ok.hn
 obtain ⟨p, gp, op⟩ := h.ok.px q hq
 have hB : BB t q = (xB t.XImages q, zB t.XImages q) := BB_x h.ok hq
 have hlow := fun j (hj : j < q) => (low_free h hf (by omega) (.inl ⟨Nat.le_refl q, hq⟩) hj).1
 have hne : (BB t q).1 ≠ 0 := fun e => by
  have := h.om (n + q) q (by omega) (by omega)
  rw [show BB t q = (0, 0) from Prod.ext e hz, om_zero] at this
  simp at this
  omega
 have hex : ∃ j, j < n ∧ (BB t q).1.testBit j = true := by
  refine Classical.byContradiction fun hno => hne ?_
  apply Nat.eq_of_testBit_eq
  intro j
  rw [Nat.zero_testBit]
  rcases Nat.lt_or_ge j n with h2 | h2
  ·cases hb : (BB t q).1.testBit j with
   | false => rfl
   | true => exact absurd ⟨j, h2, hb⟩ hno
  ·rw [hB]
   exact Nat.testBit_lt_two_pow (Nat.lt_of_lt_of_le (h.ok.lt q hq).1.1 (Nat.pow_le_pow_right (by decide) h2))
 obtain ⟨a, ha, hax, hal⟩ := first_bit _ n hex
 have hqa : q ≤ a := by
  rcases Nat.lt_or_ge a q with h1 | h1
  ·rw [hlow a h1] at hax; cases hax
  ·exact h1
 rw [hB] at hz hax hal ⊢
 simp only at hz hax hal
 have let1 : ∀ i : Nat, i ≤ 40 → F_spec_l7Letter p (i : Int) = some (if (xB t.XImages q).testBit i then 1 else 0) ∧ F_impl_letterOf p (i : Int) = some (if (xB t.XImages q).testBit i then 88 else 73) := fun i hi => by
  rw [letter_spec op hi, letter_impl op hi, hz, Nat.zero_testBit]
  cases (xB t.XImages q).testBit i <;> exact ⟨rfl, rfl⟩
 have hP : TPauli.mk p.Phase p.X p.Z = p := rfl
 have hQ : IntKind.i64.wrap (t.Qubits - 1) = (n : Int) - 1 := by rw [h.ok.qb]; exact wrap_i64 ⟨by omega, by omega⟩
 have key : ∀ (d i k : Nat), i + d = a → d < k → q ≤ i → whX (F_spec_l8Synthesize_l3 t.XImages (q : Int)) k (i : Int) = some (.inl (a : Int)) ∧ whX (F_impl_SynthesizeClifford_l3 t.Qubits t.XImages (q : Int)) k (i : Int) = some (.inl (a : Int)) := by
  intro d
  induction d with
  | zero =>
   intro i k hi hk _
   obtain ⟨k, rfl⟩ : ∃ k', k = k' + 1 := ⟨k - 1, by omega⟩
   have : i = a := by omega
   subst this
   obtain ⟨l1, l2⟩ := let1 i (by omega)
   rw [hax] at l1 l2
   have e1 : F_spec_l8Synthesize_l3 t.XImages (q : Int) (i : Int) = some (.br (i : Int)) := by
    unfold F_spec_l8Synthesize_l3
    rw [getI_nat, gp, Option.bind_some, l1]; rfl
   have e2 : F_impl_SynthesizeClifford_l3 t.Qubits t.XImages (q : Int) (i : Int) = some (.br (i : Int)) := by
    unfold F_impl_SynthesizeClifford_l3
    rw [hQ, getI_nat, gp]
    simp only [Option.bind_some, hP, l2, if_true]
    cases decide ((i : Int) < (n : Int) - 1) <;> rfl
   simp only [whX, e1, e2, Option.bind_some]
   exact ⟨trivial, trivial⟩
  | succ d ih =>
   intro i k hi hk hqi
   obtain ⟨k, rfl⟩ : ∃ k', k = k' + 1 := ⟨k - 1, by omega⟩
   obtain ⟨l1, l2⟩ := let1 i (by omega)
   rw [hal i (by omega)] at l1 l2
   have hw : IntKind.i64.wrap ((i : Int) + 1) = ((i + 1 : Nat) : Int) := wrap_i64 ⟨by omega, by omega⟩
   have e1 : F_spec_l8Synthesize_l3 t.XImages (q : Int) (i : Int) = some (.nx ((i + 1 : Nat) : Int)) := by
    unfold F_spec_l8Synthesize_l3
    rw [getI_nat, gp, Option.bind_some, l1, hw]; rfl
   have e2 : F_impl_SynthesizeClifford_l3 t.Qubits t.XImages (q : Int) (i : Int) = some (.nx ((i + 1 : Nat) : Int)) := by
    unfold F_impl_SynthesizeClifford_l3
    rw [hQ, getI_nat, gp, decide_eq_true (show (i : Int) < (n : Int) - 1 by omega)]
    simp only [Option.bind_some, hP, l2, cond_true]
    rw [hw]; rfl
   simp only [whX, e1, e2, Option.bind_some]
   exact ih (i + 1) k (by omega) (by omega) (by omega)
 obtain ⟨k1, k2⟩ := key (a - q) q fuel (by omega) (fuelB (by omega)) (Nat.le_refl q)
 exact ⟨a, hqa, ha, k1, k2, hax, hal⟩
/-- A gate on wires from q on, by both, with what it does. -/
theorem fx_add {t : TTableau} {n q : Nat} (h : Sy t n) (hq : q ≤ n) (hf : Fx n q t) {k a b : Nat} (hg : gK n k a b) (ha : q ≤ a) (hb : k = 9 → q ≤ b) {gs : List TGate} {m : Nat} (hd : Gd n gs m) (hm : m ≤ 10000) :
  ∃ t' gs', F_spec_l8R_add (Tl8R.mk t gs) (k : Int) (a : Int) (b : Int) = some (Tl8R.mk t' gs') ∧ F_impl_reducer_add (Treducer.mk t gs) (k : Int) (a : Int) (b : Int) = some (Treducer.mk t' gs') ∧ Sy t' n ∧ Gd n gs' (m + (if k = 5 then 3 else 1)) ∧ Fx n q t' ∧ ∀ r, r < 2 * n → BB t' r = actB k a b (BB t r) := by
 obtain ⟨t', gs', e1, e2, e3, e4, e5⟩ := sy_add h hg hd hm
 exact ⟨t', gs', e1, e2, e3, e4, fx_act hq hf ha hb e5, e5⟩
/-- The wire is brought to its place. -/
theorem swap_both {t : TTableau} {n q a : Nat} (h : Sy t n) (hq : q < n) (hf : Fx n q t) (hz : (BB t q).2 = 0) (hqa : q ≤ a) (ha : a < n) (hax : (BB t q).1.testBit a = true) (hal : ∀ j, j < a → (BB t q).1.testBit j = false) {gs : List TGate} {m : Nat} (hd : Gd n gs m) (hm : m ≤ 8000) :
  ∃ t' gs', ((bif ((a : Int) != (q : Int)) then ((F_spec_l8R_add (Tl8R.mk t gs) 9 (a : Int) (q : Int)).bind fun m2 => (F_spec_l8R_add m2 9 (q : Int) (a : Int)).bind fun m3 => (F_spec_l8R_add m3 9 (a : Int) (q : Int)).bind fun m4 => some (m4.t.Qubits, m4.t.XImages, m4.t.ZImages, m4.out)) else (some (t.Qubits, t.XImages, t.ZImages, gs))) : Option (Int × List TPauli × List TPauli × List TGate)) = some (t'.Qubits, t'.XImages, t'.ZImages, gs') ∧
   ((bif ((a : Int) != (q : Int)) then ((F_impl_reducer_add (Treducer.mk t gs) 9 (a : Int) (q : Int)).bind fun m2 => (F_impl_reducer_add m2 9 (q : Int) (a : Int)).bind fun m3 => (F_impl_reducer_add m3 9 (a : Int) (q : Int)).bind fun m4 => some (m4.t.Qubits, m4.t.XImages, m4.t.ZImages, m4.gates)) else (some (t.Qubits, t.XImages, t.ZImages, gs))) : Option (Int × List TPauli × List TPauli × List TGate)) = some (t'.Qubits, t'.XImages, t'.ZImages, gs') ∧
   Sy t' n ∧ Gd n gs' (m + 3) ∧ Fx n q t' ∧ (BB t' q).2 = 0 ∧ (BB t' q).1.testBit q = true := by
 by_cases he : a = q
 ·subst he
  rw [show ((a : Int) != (a : Int)) = false by simp]
  exact ⟨t, gs, rfl, rfl, h, gd_mono hd (by omega), hf, hz, hax⟩
 ·rw [show ((a : Int) != (q : Int)) = true by simp; omega]
  obtain ⟨t1, g1, a1, a2, a3, a4, a5, a6⟩ := fx_add h (by omega) hf (k := 9) (a := a) (b := q) ⟨ha, .inr ⟨rfl, hq, he⟩⟩ hqa (fun _ => Nat.le_refl q) hd (by omega)
  obtain ⟨t2, g2, b1, b2, b3, b4, b5, b6⟩ := fx_add a3 (by omega) a5 (k := 9) (a := q) (b := a) ⟨hq, .inr ⟨rfl, ha, Ne.symm he⟩⟩ (Nat.le_refl q) (fun _ => hqa) a4 (by simp; omega)
  obtain ⟨t3, g3, c1, c2, c3, c4, c5, c6⟩ := fx_add b3 (by omega) b5 (k := 9) (a := a) (b := q) ⟨ha, .inr ⟨rfl, hq, he⟩⟩ hqa (fun _ => Nat.le_refl q) b4 (by simp; omega)
  have zz : ∀ (a b : Nat) (p : Nat × Nat), p.2 = 0 → (aC a b p).2 = 0 := fun a b p hp => by
   unfold aC; rw [hp]; simp
  have d1 : BB t1 q = aC a q (BB t q) := a6 q (by omega)
  have d2 : BB t2 q = aC q a (BB t1 q) := b6 q (by omega)
  have d3 : BB t3 q = aC a q (BB t2 q) := c6 q (by omega)
  have z1 : (BB t1 q).2 = 0 := by rw [d1]; exact zz _ _ _ hz
  have z2 : (BB t2 q).2 = 0 := by rw [d2]; exact zz _ _ _ z1
  have z3 : (BB t3 q).2 = 0 := by rw [d3]; exact zz _ _ _ z2
  have x1q : (BB t1 q).1.testBit q = true := by rw [d1, (aC_bit a q q _).1, if_pos rfl, hax, hal q (by omega)]; rfl
  have x1a : (BB t1 q).1.testBit a = true := by rw [d1, (aC_bit a q a _).1, if_neg (Ne.symm he), hax]
  have x2a : (BB t2 q).1.testBit a = false := by rw [d2, (aC_bit q a a _).1, if_pos rfl, x1a, x1q]; rfl
  have x2q : (BB t2 q).1.testBit q = true := by rw [d2, (aC_bit q a q _).1, if_neg he, x1q]
  have x3q : (BB t3 q).1.testBit q = true := by rw [d3, (aC_bit a q q _).1, if_pos rfl, x2q, x2a]; rfl
  have a1' : F_spec_l8R_add (Tl8R.mk t gs) 9 (a : Int) (q : Int) = some (Tl8R.mk t1 g1) := a1
  have a2' : F_impl_reducer_add (Treducer.mk t gs) 9 (a : Int) (q : Int) = some (Treducer.mk t1 g1) := a2
  have b1' : F_spec_l8R_add (Tl8R.mk t1 g1) 9 (q : Int) (a : Int) = some (Tl8R.mk t2 g2) := b1
  have b2' : F_impl_reducer_add (Treducer.mk t1 g1) 9 (q : Int) (a : Int) = some (Treducer.mk t2 g2) := b2
  have c1' : F_spec_l8R_add (Tl8R.mk t2 g2) 9 (a : Int) (q : Int) = some (Tl8R.mk t3 g3) := c1
  have c2' : F_impl_reducer_add (Treducer.mk t2 g2) 9 (a : Int) (q : Int) = some (Treducer.mk t3 g3) := c2
  refine ⟨t3, g3, ?_, ?_, c3, gd_mono c4 (by simp), c5, z3, x3q⟩
  ·simp only [cond_true, a1', b1', c1', Option.bind_some]
  ·simp only [cond_true, a2', b2', c2', Option.bind_some]

/-- The image of Z on the wire, brought to its place. -/
theorem zpart_both {t : TTableau} {n q : Nat} (h : Sy t n) (hq : q < n) (hf : Fx n q t) (hb : BB t q = (2 ^ q, 0)) {gs : List TGate} {m : Nat} (hd : Gd n gs m) (hm : m ≤ 7000) :
  ∃ t' gs', (((getI t.ZImages (q : Int)).bind fun x4 =>
 chk ((!(x4.X != 0)) = true → (0 : Int) ≤ (IntKind.u64.wrap (q : Int))) <|
 bif ((x4.X != 0) || (x4.Z != (shlK .i64 1 (IntKind.u64.wrap (q : Int))))) then ((F_spec_l8R_add (Tl8R.mk (TTableau.mk t.Qubits t.XImages t.ZImages) gs) 1 (q : Int) 0).bind fun m6 =>
 (((whX (F_spec_l8Synthesize_l5 (q : Int)) fuel (m6.t.Qubits, m6.t.XImages, m6.t.ZImages, m6.out, (IntKind.i64.wrap ((q : Int) + 1)))).bind <| orR fun (Qubits12, XImages12, ZImages12, out12, s2) =>
 some ((Qubits12, XImages12, ZImages12, out12))) : Option (Int × List TPauli × List TPauli × List TGate)).bind fun (Qubits11, XImages11, ZImages11, out11) =>
 (((getI ZImages11 (q : Int)).bind fun x7 =>
 (F_spec_l7Letter x7 (q : Int)).bind fun r_7 =>
 bif (r_7 == 3) then ((F_spec_l8R_add (Tl8R.mk (TTableau.mk Qubits11 XImages11 ZImages11) out11) 5 (q : Int) 0).bind fun m9 =>
 some (m9.t.Qubits, m9.t.XImages, m9.t.ZImages, m9.out)) else (some (Qubits11, XImages11, ZImages11, out11))) : Option (Int × List TPauli × List TPauli × List TGate)).bind fun (Qubits15, XImages15, ZImages15, out15) =>
 (((whX (F_spec_l8Synthesize_l6 (q : Int)) fuel (Qubits15, XImages15, ZImages15, out15, (IntKind.i64.wrap ((q : Int) + 1)))).bind <| orR fun (Qubits17, XImages17, ZImages17, out17, s3) =>
 some ((Qubits17, XImages17, ZImages17, out17))) : Option (Int × List TPauli × List TPauli × List TGate)).bind fun (Qubits16, XImages16, ZImages16, out16) =>
 (F_spec_l8R_add (Tl8R.mk (TTableau.mk Qubits16 XImages16 ZImages16) out16) 1 (q : Int) 0).bind fun m11 =>
 some (m11.t.Qubits, m11.t.XImages, m11.t.ZImages, m11.out)) else (some (t.Qubits, t.XImages, t.ZImages, gs))) : Option (Int × List TPauli × List TPauli × List TGate)) = some (t'.Qubits, t'.XImages, t'.ZImages, gs') ∧
  ((((getI t.ZImages (q : Int)).bind fun x3 =>
 some ((x3.Phase, x3.X, x3.Z))) : Option (Int × Int × Int)).bind fun (t11, t12, t13) =>
 chk ((!(t12 != 0)) = true → (0 : Int) ≤ (q : Int)) <|
 bif ((t12 != 0) || (t13 != (shlK .i64 1 (q : Int)))) then ((F_impl_reducer_add (Treducer.mk (TTableau.mk t.Qubits t.XImages t.ZImages) gs) 1 (q : Int) 0).bind fun m6 =>
 (whX (F_impl_SynthesizeClifford_l5 (q : Int)) fuel (m6.t.Qubits, m6.t.XImages, m6.t.ZImages, m6.gates, (IntKind.i64.wrap ((q : Int) + 1)))).bind <| orR fun (Qubits9, XImages9, ZImages9, gates9, s2) =>
 (((((getI ZImages9 (q : Int)).bind fun x5 =>
 some ((x5.Phase, x5.X, x5.Z))) : Option (Int × Int × Int)).bind fun (t17, t18, t19) =>
 (F_impl_letterOf (TPauli.mk t17 t18 t19) (q : Int)).bind fun r_7 =>
 bif (r_7 == 89) then ((F_impl_reducer_add (Treducer.mk (TTableau.mk Qubits9 XImages9 ZImages9) gates9) 5 (q : Int) 0).bind fun m9 =>
 some (m9.t.Qubits, m9.t.XImages, m9.t.ZImages, m9.gates)) else (some (Qubits9, XImages9, ZImages9, gates9))) : Option (Int × List TPauli × List TPauli × List TGate)).bind fun (Qubits11, XImages11, ZImages11, gates11) =>
 (((whX (F_impl_SynthesizeClifford_l6 (q : Int)) fuel (Qubits11, XImages11, ZImages11, gates11, (IntKind.i64.wrap ((q : Int) + 1)))).bind <| orR fun (Qubits13, XImages13, ZImages13, gates13, s3) =>
 some ((Qubits13, XImages13, ZImages13, gates13))) : Option (Int × List TPauli × List TPauli × List TGate)).bind fun (Qubits12, XImages12, ZImages12, gates12) =>
 (F_impl_reducer_add (Treducer.mk (TTableau.mk Qubits12 XImages12 ZImages12) gates12) 1 (q : Int) 0).bind fun m11 =>
 some (m11.t.Qubits, m11.t.XImages, m11.t.ZImages, m11.gates)) else (some (t.Qubits, t.XImages, t.ZImages, gs)) : Option (Int × List TPauli × List TPauli × List TGate)) = some (t'.Qubits, t'.XImages, t'.ZImages, gs') ∧
  Sy t' n ∧ Gd n gs' (m + 30) ∧ Fx n q t' ∧ BB t' q = (2 ^ q, 0) ∧ BB t' (n + q) = (0, 2 ^ q) := by
 have hn := h.ok.hn
 obtain ⟨p, gp, op⟩ := h.ok.pz q hq
 have hBz : BB t (n + q) = (xB t.ZImages q, zB t.ZImages q) := BB_z h.ok
 have hu : IntKind.u64.wrap (q : Int) = (q : Int) := wrapU (by omega)
 have hw : IntKind.i64.wrap ((q : Int) + 1) = ((q + 1 : Nat) : Int) := wrap_i64 ⟨by omega, by omega⟩
 have h2q : 2 ^ q ≤ 32 := Nat.pow_le_pow_right (n := 2) (by decide) (show q ≤ 5 by omega)
 have s1 : shlK .i64 1 (q : Int) = ((2 ^ q : Nat) : Int) := by rw [show (1 : Int) = ((1 : Nat) : Int) from rfl, shl_i (by omega) (by omega), Nat.one_mul]
 have chN : ∀ {α : Type} {c : Prop} [Decidable c] (x : Option α), chk (c → (0 : Int) ≤ (q : Int)) x = x := fun {α c} _ x => chk_t (fun _ => by omega)
 have hT : ∀ t : TTableau, TTableau.mk t.Qubits t.XImages t.ZImages = t := fun t => rfl
 have hP : ∀ p : TPauli, TPauli.mk p.Phase p.X p.Z = p := fun p => rfl
 rw [getI_nat, gp]
 simp only [Option.bind_some, hu, s1, chN, hT, hw]
 rw [op.ex, op.ez]
 by_cases he : xB t.ZImages q = 0 ∧ zB t.ZImages q = 2 ^ q
 ·rw [he.1, he.2, show ((((0 : Nat) : Int) != 0) || (((2 ^ q : Nat) : Int) != ((2 ^ q : Nat) : Int))) = false by simp]
  exact ⟨t, gs, rfl, rfl, h, gd_mono hd (by omega), hf, hb, by rw [hBz, he.1, he.2]⟩
 ·rw [show ((((xB t.ZImages q : Nat) : Int) != 0) || (((zB t.ZImages q : Nat) : Int) != ((2 ^ q : Nat) : Int))) = true by
   rw [Bool.or_eq_true, bne_iff_ne, bne_iff_ne]
   rcases Classical.em (xB t.ZImages q = 0) with h0 | h0
   ·exact .inr (fun e => he ⟨h0, Int.ofNat.inj e⟩)
   ·exact .inl (fun e => h0 (Int.ofNat.inj e))]
  obtain ⟨t1, g1, a1, a2, a3, a4, a5, a6⟩ := fx_add h (by omega) hf (k := 1) (a := q) (b := 0) ⟨hq, .inl ⟨.inl rfl, rfl⟩⟩ (Nat.le_refl q) (fun h9 => by cases h9) hd (by omega)
  have aHx : aH q (2 ^ q, 0) = (0, 2 ^ q) := by
   unfold aH
   simp [Nat.testBit_two_pow]
  have aHz : aH q (0, 2 ^ q) = (2 ^ q, 0) := by
   unfold aH
   simp [Nat.testBit_two_pow]
  have b1 : BB t1 q = (0, 2 ^ q) := by rw [a6 q (by omega), hb]; exact aHx
  obtain ⟨t2, g2, c1, c2, c3, c4, c5, c6, c7⟩ := loop_5 a3 hq a5 b1 a4 (by simp; omega)
  obtain ⟨p2, gp2, op2⟩ := c3.ok.pz q hq
  have hB2 : BB t2 (n + q) = (xB t2.ZImages q, zB t2.ZImages q) := BB_z c3.ok
  have hx2 : (BB t2 (n + q)).1.testBit q = true := by
   have := c3.om (n + q) q (by omega) (by omega)
   rw [c6, (om_unit (show q < 5 by omega) _).2] at this
   rw [this]
   exact decide_eq_true (by omega)
  have l1 := letter_spec op2 (q := q) (by omega)
  have l2 := letter_impl op2 (q := q) (by omega)
  rw [hB2] at hx2 c7
  simp only at hx2 c7
  obtain ⟨_, k89, _, _, k3, _⟩ := lc_spec ((xB t2.ZImages q).testBit q) ((zB t2.ZImages q).testBit q)
  -- the turn on the wire
  obtain ⟨t3, g3, s1', s2', s3, s4, s5, s6, s7, s8⟩ : ∃ t3 g3, (((bif (zB t2.ZImages q).testBit q then ((F_spec_l8R_add (Tl8R.mk t2 g2) 5 (q : Int) 0).bind fun m9 => some (m9.t.Qubits, m9.t.XImages, m9.t.ZImages, m9.out)) else (some (t2.Qubits, t2.XImages, t2.ZImages, g2))) : Option (Int × List TPauli × List TPauli × List TGate)) = some (t3.Qubits, t3.XImages, t3.ZImages, g3)) ∧
    (((bif (zB t2.ZImages q).testBit q then ((F_impl_reducer_add (Treducer.mk t2 g2) 5 (q : Int) 0).bind fun m9 => some (m9.t.Qubits, m9.t.XImages, m9.t.ZImages, m9.gates)) else (some (t2.Qubits, t2.XImages, t2.ZImages, g2))) : Option (Int × List TPauli × List TPauli × List TGate)) = some (t3.Qubits, t3.XImages, t3.ZImages, g3)) ∧
    Sy t3 n ∧ Gd n g3 (m + 1 + 12 + 3) ∧ Fx n q t3 ∧ BB t3 q = (0, 2 ^ q) ∧ (BB t3 (n + q)).2 = 0 ∧ (BB t3 (n + q)).1.testBit q = true := by
   cases hz2 : (zB t2.ZImages q).testBit q with
   | false =>
    refine ⟨t2, g2, rfl, rfl, c3, gd_mono c4 (by simp), c5, c6, ?_, by rw [hB2]; exact hx2⟩
    rw [hB2]
    apply Nat.eq_of_testBit_eq
    intro j
    rw [Nat.zero_testBit]
    by_cases hj : j = q
    ·subst hj; exact hz2
    ·exact c7 j hj
   | true =>
    obtain ⟨t3, g3, d1, d2, d3, d4, d5, d6⟩ := fx_add c3 (by omega) c5 (k := 5) (a := q) (b := 0) ⟨hq, .inl ⟨.inr (.inr (.inr rfl)), rfl⟩⟩ (Nat.le_refl q) (fun h9 => by cases h9) c4 (by simp; omega)
    have d1' : F_spec_l8R_add (Tl8R.mk t2 g2) 5 (q : Int) 0 = some (Tl8R.mk t3 g3) := d1
    have d2' : F_impl_reducer_add (Treducer.mk t2 g2) 5 (q : Int) 0 = some (Treducer.mk t3 g3) := d2
    have e1 : BB t3 q = aS q (BB t2 q) := d6 q (by omega)
    have e2 : BB t3 (n + q) = aS q (BB t2 (n + q)) := d6 (n + q) (by omega)
    refine ⟨t3, g3, by rw [cond_true, d1']; rfl, by rw [cond_true, d2']; rfl, d3, gd_mono d4 (by simp), d5, ?_, ?_, ?_⟩
    ·rw [e1, c6]; unfold aS; simp
    ·rw [e2, hB2]
     apply Nat.eq_of_testBit_eq
     intro j
     rw [(aS_bit q j _).2, Nat.zero_testBit]
     by_cases hj : q = j
     ·subst hj
      rw [if_pos rfl]
      simp only
      rw [hz2, hx2]; rfl
     ·rw [if_neg hj]; exact c7 j (Ne.symm hj)
    ·rw [e2, hB2, (aS_bit q q _).1]; exact hx2
  obtain ⟨t4, g4, f1, f2, f3, f4, f5, f6, f7⟩ := loop_6 s3 hq s5 s6 s7 s8 s4 (by omega)
  obtain ⟨t5, g5, h1, h2, h3, h4, h5, h6⟩ := fx_add f3 (by omega) f5 (k := 1) (a := q) (b := 0) ⟨hq, .inl ⟨.inl rfl, rfl⟩⟩ (Nat.le_refl q) (fun h9 => by cases h9) f4 (by omega)
  have a1' : F_spec_l8R_add (Tl8R.mk t gs) 1 (q : Int) 0 = some (Tl8R.mk t1 g1) := a1
  have a2' : F_impl_reducer_add (Treducer.mk t gs) 1 (q : Int) 0 = some (Treducer.mk t1 g1) := a2
  have h1' : F_spec_l8R_add (Tl8R.mk t4 g4) 1 (q : Int) 0 = some (Tl8R.mk t5 g5) := h1
  have h2' : F_impl_reducer_add (Treducer.mk t4 g4) 1 (q : Int) 0 = some (Treducer.mk t5 g5) := h2
  refine ⟨t5, g5, ?_, ?_, h3, gd_mono h4 (by simp), h5, ?_, ?_⟩
  ·simp only [cond_true, a1', Option.bind_some, c1, orR]
   rw [getI_nat, gp2, Option.bind_some, l1, Option.bind_some, k3, hx2, Bool.true_and, hT, s1']
   simp only [Option.bind_some, f1, orR, hT, h1']
  ·simp only [cond_true, a2', Option.bind_some, c2, orR]
   rw [getI_nat, gp2, Option.bind_some]
   simp only [Option.bind_some, hP]
   rw [l2, Option.bind_some, k89, hx2, Bool.true_and, hT, s2']
   simp only [Option.bind_some, f2, orR, hT, h2']
  ·rw [h6 q (by omega), f6]; exact aHz
  ·rw [h6 (n + q) (by omega), f7]; exact aHx

theorem phx_both {t : TTableau} {n q : Nat} (h : Sy t n) (hq : q < n) (hf : Fx n q t) {gs : List TGate} {m : Nat} (hd : Gd n gs m) (hm : m ≤ 9000) :
  ∃ t' gs', (((getI t.XImages (q : Int)).bind fun x9 =>
 bif (x9.Phase == 2) then ((F_spec_l8R_add (Tl8R.mk (TTableau.mk t.Qubits t.XImages t.ZImages) gs) 4 (q : Int) 0).bind fun m12 =>
 some (m12.t.Qubits, m12.t.XImages, m12.t.ZImages, m12.out)) else (some (t.Qubits, t.XImages, t.ZImages, gs))) : Option (Int × List TPauli × List TPauli × List TGate)) = some (t'.Qubits, t'.XImages, t'.ZImages, gs') ∧
 ((((getI t.XImages (q : Int)).bind fun x7 =>
 some ((x7.Phase, x7.X, x7.Z))) : Option (Int × Int × Int)).bind fun (t23, t24, t25) =>
 bif (t23 == 2) then ((F_impl_reducer_add (Treducer.mk (TTableau.mk t.Qubits t.XImages t.ZImages) gs) 4 (q : Int) 0).bind fun m12 =>
 some (m12.t.Qubits, m12.t.XImages, m12.t.ZImages, m12.gates)) else (some (t.Qubits, t.XImages, t.ZImages, gs)) : Option (Int × List TPauli × List TPauli × List TGate)) = some (t'.Qubits, t'.XImages, t'.ZImages, gs') ∧ Sy t' n ∧ Gd n gs' (m + 1) ∧ Fx n q t' ∧ ∀ r, r < 2 * n → BB t' r = BB t r := by
 obtain ⟨p, gp, _⟩ := h.ok.px q hq
 rw [getI_nat, gp]
 simp only [Option.bind_some]
 cases p.Phase == 2 with
 | false => exact ⟨t, gs, rfl, rfl, h, gd_mono hd (by omega), hf, fun _ _ => rfl⟩
 | true =>
  obtain ⟨t', gs', e1, e2, e3, e4, e5, e6⟩ := fx_add h (by omega) hf (k := 4) (a := q) (b := 0) ⟨hq, .inl ⟨.inr (.inr (.inl rfl)), rfl⟩⟩ (Nat.le_refl q) (fun h9 => by cases h9) hd (by omega)
  have e1' : F_spec_l8R_add (Tl8R.mk t gs) 4 (q : Int) 0 = some (Tl8R.mk t' gs') := e1
  have e2' : F_impl_reducer_add (Treducer.mk t gs) 4 (q : Int) 0 = some (Treducer.mk t' gs') := e2
  refine ⟨t', gs', ?_, ?_, e3, gd_mono e4 (by simp), e5, fun r hr => e6 r hr⟩
  ·rw [cond_true, e1']; rfl
  ·rw [cond_true, e2']; rfl
theorem phz_both {t : TTableau} {n q : Nat} (h : Sy t n) (hq : q < n) (hf : Fx n q t) {gs : List TGate} {m : Nat} (hd : Gd n gs m) (hm : m ≤ 9000) :
  ∃ t' gs', (((getI t.ZImages (q : Int)).bind fun x9 =>
 bif (x9.Phase == 2) then ((F_spec_l8R_add (Tl8R.mk (TTableau.mk t.Qubits t.XImages t.ZImages) gs) 2 (q : Int) 0).bind fun m12 =>
 some (m12.t.Qubits, m12.t.XImages, m12.t.ZImages, m12.out)) else (some (t.Qubits, t.XImages, t.ZImages, gs))) : Option (Int × List TPauli × List TPauli × List TGate)) = some (t'.Qubits, t'.XImages, t'.ZImages, gs') ∧
 ((((getI t.ZImages (q : Int)).bind fun x7 =>
 some ((x7.Phase, x7.X, x7.Z))) : Option (Int × Int × Int)).bind fun (t23, t24, t25) =>
 bif (t23 == 2) then ((F_impl_reducer_add (Treducer.mk (TTableau.mk t.Qubits t.XImages t.ZImages) gs) 2 (q : Int) 0).bind fun m12 =>
 some (m12.t.Qubits, m12.t.XImages, m12.t.ZImages, m12.gates)) else (some (t.Qubits, t.XImages, t.ZImages, gs)) : Option (Int × List TPauli × List TPauli × List TGate)) = some (t'.Qubits, t'.XImages, t'.ZImages, gs') ∧ Sy t' n ∧ Gd n gs' (m + 1) ∧ Fx n q t' ∧ ∀ r, r < 2 * n → BB t' r = BB t r := by
 obtain ⟨p, gp, _⟩ := h.ok.pz q hq
 rw [getI_nat, gp]
 simp only [Option.bind_some]
 cases p.Phase == 2 with
 | false => exact ⟨t, gs, rfl, rfl, h, gd_mono hd (by omega), hf, fun _ _ => rfl⟩
 | true =>
  obtain ⟨t', gs', e1, e2, e3, e4, e5, e6⟩ := fx_add h (by omega) hf (k := 2) (a := q) (b := 0) ⟨hq, .inl ⟨.inr (.inl rfl), rfl⟩⟩ (Nat.le_refl q) (fun h9 => by cases h9) hd (by omega)
  have e1' : F_spec_l8R_add (Tl8R.mk t gs) 2 (q : Int) 0 = some (Tl8R.mk t' gs') := e1
  have e2' : F_impl_reducer_add (Treducer.mk t gs) 2 (q : Int) 0 = some (Treducer.mk t' gs') := e2
  refine ⟨t', gs', ?_, ?_, e3, gd_mono e4 (by simp), e5, fun r hr => e6 r hr⟩
  ·rw [cond_true, e1']; rfl
  ·rw [cond_true, e2']; rfl
theorem stage {T t : TTableau} {n q : Nat} (hTq : T.Qubits = (n : Int)) (h : Sy t n) (hq : q < n) (hf : Fx n q t) {gs : List TGate} {m : Nat} (hd : Gd n gs m) (hm : m ≤ 1000) :
  ∃ t' gs', F_spec_l8Synthesize_l1 T (t.Qubits, t.XImages, t.ZImages, gs, (q : Int)) = some (.nx (t'.Qubits, t'.XImages, t'.ZImages, gs', ((q + 1 : Nat) : Int))) ∧ F_impl_SynthesizeClifford_l1 T (t.Qubits, t.XImages, t.ZImages, gs, (q : Int)) = some (.nx (t'.Qubits, t'.XImages, t'.ZImages, gs', ((q + 1 : Nat) : Int))) ∧ Sy t' n ∧ Gd n gs' (m + 62) ∧ Fx n (q + 1) t' := by
 have hn := h.ok.hn
 obtain ⟨t2, g2, a1, a2, a3, a4, a5, a6⟩ := loop_2 h hq hf hd (by omega)
 obtain ⟨A, bq, bn, b1, b2, b3, b4⟩ := at_both a3 hq a5 a6
 obtain ⟨t3, g3, c1, c2, c3, c4, c5, c6, c7⟩ := swap_both a3 hq a5 a6 bq bn b3 b4 a4 (by omega)
 obtain ⟨t4, g4, d1, d2, d3, d4, d5, d6⟩ := loop_4 c3 hq c5 c6 c7 c4 (by omega)
 obtain ⟨t5, g5, e1, e2, e3, e4, e5, e6, e7⟩ := zpart_both d3 hq d5 d6 d4 (by omega)
 obtain ⟨t6, g6, f1, f2, f3, f4, f5, f6⟩ := phx_both e3 hq e5 e4 (by omega)
 obtain ⟨t7, g7, h1, h2, h3, h4, h5, h6⟩ := phz_both f3 hq f5 f4 (by omega)
 have hlt : decide ((q : Int) < T.Qubits) = true := by rw [hTq]; exact decide_eq_true (by omega)
 have hw : IntKind.i64.wrap ((q : Int) + 1) = ((q + 1 : Nat) : Int) := wrap_i64 ⟨by omega, by omega⟩
 refine ⟨t7, g7, ?_, ?_, h3, gd_mono h4 (by omega), fun j hj => ?_⟩
 ·unfold F_spec_l8Synthesize_l1
  simp only
  rw [hlt, cond_true, a1]
  simp only [orR, Option.bind_some]
  rw [b1]
  simp only [orR, Option.bind_some]
  rw [c1]
  simp only [orR, Option.bind_some]
  rw [hw, d1]
  simp only [orR, Option.bind_some]
  rw [hw] at e1
  rw [e1]
  simp only [orR, Option.bind_some]
  rw [f1]
  simp only [orR, Option.bind_some]
  rw [h1]
  simp only [Option.bind_some]
 ·unfold F_impl_SynthesizeClifford_l1
  simp only
  rw [hlt, cond_true, a2]
  simp only [orR, Option.bind_some]
  rw [b2]
  simp only [orR, Option.bind_some]
  rw [c2]
  simp only [orR, Option.bind_some]
  rw [hw, d2]
  simp only [orR, Option.bind_some]
  rw [hw] at e2
  rw [e2]
  simp only [orR, Option.bind_some]
  rw [f2]
  simp only [orR, Option.bind_some]
  rw [h2]
  simp only [Option.bind_some]
 ·rcases Nat.lt_or_ge j q with hjq | hjq
  ·exact h5 j hjq
  ·have : j = q := by omega
   subst this
   rw [h6 j (by omega), f6 j (by omega), e6, h6 (n + j) (by omega), f6 (n + j) (by omega), e7]
   exact ⟨rfl, rfl⟩

theorem stages {T : TTableau} {n : Nat} (hTq : T.Qubits = (n : Int)) : ∀ (d q k : Nat) (t : TTableau) (gs : List TGate) (m : Nat), q + d = n → d < k → Sy t n → Fx n q t → Gd n gs m → m + 62 * d ≤ 900 →
  ∃ (t' : TTableau) (gs' : List TGate), whX (F_spec_l8Synthesize_l1 T) k (t.Qubits, t.XImages, t.ZImages, gs, (q : Int)) = some (.inl (t'.Qubits, t'.XImages, t'.ZImages, gs', (n : Int))) ∧ whX (F_impl_SynthesizeClifford_l1 T) k (t.Qubits, t.XImages, t.ZImages, gs, (q : Int)) = some (.inl (t'.Qubits, t'.XImages, t'.ZImages, gs', (n : Int))) ∧ Gd n gs' (m + 62 * d) := by
 intro d
 induction d with
 | zero =>
  intro q k t gs m hq hk hy hf hd _
  obtain ⟨k, rfl⟩ : ∃ k', k = k' + 1 := ⟨k - 1, by omega⟩
  have : q = n := by omega
  subst this
  have hlt : decide ((q : Int) < T.Qubits) = false := by rw [hTq]; exact decide_eq_false (by omega)
  have e1 : F_spec_l8Synthesize_l1 T (t.Qubits, t.XImages, t.ZImages, gs, (q : Int)) = some (.br (t.Qubits, t.XImages, t.ZImages, gs, (q : Int))) := by
   unfold F_spec_l8Synthesize_l1; simp only; rw [hlt, cond_false]
  have e2 : F_impl_SynthesizeClifford_l1 T (t.Qubits, t.XImages, t.ZImages, gs, (q : Int)) = some (.br (t.Qubits, t.XImages, t.ZImages, gs, (q : Int))) := by
   unfold F_impl_SynthesizeClifford_l1; simp only; rw [hlt, cond_false]
  exact ⟨t, gs, by simp only [whX, e1, Option.bind_some], by simp only [whX, e2, Option.bind_some], hd⟩
 | succ d ih =>
  intro q k t gs m hq hk hy hf hd hm
  obtain ⟨k, rfl⟩ : ∃ k', k = k' + 1 := ⟨k - 1, by omega⟩
  obtain ⟨t1, g1, e1, e2, e3, e4, e5⟩ := stage hTq hy (by omega) hf hd (by omega)
  obtain ⟨t2, g2, f1, f2, f3⟩ := ih (q + 1) k t1 g1 (m + 62) (by omega) (by omega) e3 e5 e4 (by omega)
  refine ⟨t2, g2, ?_, ?_, gd_mono f3 (by omega)⟩
  ·simp only [whX, e1, Option.bind_some]; exact f1
  ·simp only [whX, e2, Option.bind_some]; exact f2
def exG (g : TGate) : List TGate := if g.Kind = 5 then [g, g, g] else [g]
def rvt (gs : List TGate) : Nat → List TGate
 | 0 => []
 | i + 1 => exG (gs.getD i (TGate.mk 0 0 0)) ++ rvt gs i
theorem exG_len (g : TGate) : (exG g).length = cst g := by unfold exG cst; split <;> rfl
theorem rvt_len (gs : List TGate) : ∀ i, i ≤ gs.length → (rvt gs i).length = ((gs.take i).map cst).sum
 | 0, _ => by simp [rvt]
 | i + 1, hi => by
  have hg := List.getElem?_eq_getElem (show i < gs.length by omega)
  have htk : gs.take (i + 1) = gs.take i ++ [gs[i]'(by omega)] := by rw [List.take_add_one, hg]; rfl
  rw [htk, List.map_append, List.sum_append]
  simp only [rvt, List.length_append, exG_len, rvt_len gs i (by omega), List.map_cons, List.map_nil, List.sum_cons, List.sum_nil]
  rw [List.getD_eq_getElem?_getD, hg]
  simp only [Option.getD_some]
  omega
theorem rvt_mem (gs : List TGate) : ∀ i, i ≤ gs.length → ∀ g ∈ rvt gs i, g ∈ gs
 | 0, _, g, h => by cases h
 | i + 1, hi, g, h => by
  have hg := List.getElem?_eq_getElem (show i < gs.length by omega)
  simp only [rvt, List.mem_append] at h
  rcases h with h | h
  ·rw [List.getD_eq_getElem?_getD, hg] at h
   simp only [Option.getD_some] at h
   have : g = gs[i]'(by omega) := by
    unfold exG at h
    split at h <;> simp at h <;> exact h
   rw [this]; exact List.getElem_mem _
  ·exact rvt_mem gs i (by omega) g h
theorem rev_both (gs : List TGate) (hgl : gs.length ≤ 1000) : ∀ (i k : Nat) (L : List TGate), i ≤ gs.length → i < k → L.length + (rvt gs i).length ≤ 1000000 →
  whX (F_spec_l8Synthesize_l7 gs) k (L, (i : Int) - 1) = some (.inl (L ++ rvt gs i, -1)) ∧ whX (F_impl_SynthesizeClifford_l7 gs) k (L, (i : Int) - 1) = some (.inl (L ++ rvt gs i, -1)) := by
 intro i
 induction i with
 | zero =>
  intro k L _ hk _
  obtain ⟨k, rfl⟩ : ∃ k', k = k' + 1 := ⟨k - 1, by omega⟩
  have hm : (((0 : Nat) : Int) - 1) = -1 := rfl
  rw [hm]
  have e1 : F_spec_l8Synthesize_l7 gs (L, -1) = some (.br (L, -1)) := rfl
  have e2 : F_impl_SynthesizeClifford_l7 gs (L, -1) = some (.br (L, -1)) := rfl
  simp only [whX, e1, e2, Option.bind_some, rvt, List.append_nil]
  exact ⟨trivial, trivial⟩
 | succ i ih =>
  intro k L hi hk hl
  obtain ⟨k, rfl⟩ : ∃ k', k = k' + 1 := ⟨k - 1, by omega⟩
  have hg := List.getElem?_eq_getElem (show i < gs.length by omega)
  generalize hgg : gs[i]'(by omega) = g at hg
  have hgd : gs.getD i (TGate.mk 0 0 0) = g := by rw [List.getD_eq_getElem?_getD, hg]; rfl
  simp only [rvt, hgd, List.length_append] at hl ⊢
  have hm : (((i + 1 : Nat) : Int) - 1) = (i : Int) := by omega
  rw [hm]
  have hw : IntKind.i64.wrap ((i : Int) - 1) = (i : Int) - 1 := wrap_i64 ⟨by omega, by omega⟩
  have h5 : (g.Kind == 5) = decide (g.Kind = 5) := by rw [Bool.eq_iff_iff]; simp
  have hex : (exG g).length = if g.Kind = 5 then 3 else 1 := exG_len g
  have hex1 : 1 ≤ (exG g).length := by rw [hex]; split <;> decide
  have e1 : F_spec_l8Synthesize_l7 gs (L, (i : Int)) = some (.nx (L ++ exG g, (i : Int) - 1)) := by
   unfold F_spec_l8Synthesize_l7
   simp only
   rw [decide_eq_true (show (0 : Int) ≤ (i : Int) by omega), cond_true, getI_nat, hg]
   simp only [Option.bind_some, h5, hw]
   rw [chk_t (by omega)]
   unfold exG
   by_cases hk5 : g.Kind = 5
   ·rw [decide_eq_true hk5, cond_true, if_pos hk5, chk_t (by rw [hex, if_pos hk5] at hl; simp only [List.length_append, List.length_cons, List.length_nil]; omega)]
    simp only [Option.bind_some, List.append_assoc]
    rfl
   ·rw [decide_eq_false hk5, cond_false, if_neg hk5]; rfl
  have e2 : F_impl_SynthesizeClifford_l7 gs (L, (i : Int)) = some (.nx (L ++ exG g, (i : Int) - 1)) := by
   unfold F_impl_SynthesizeClifford_l7
   simp only
   rw [decide_eq_true (show (0 : Int) ≤ (i : Int) by omega), cond_true, getI_nat, hg]
   simp only [Option.bind_some, h5, hw]
   rw [chk_t (by omega)]
   unfold exG
   by_cases hk5 : g.Kind = 5
   ·rw [decide_eq_true hk5, cond_true, if_pos hk5, chk_t (by rw [hex, if_pos hk5] at hl; simp only [List.length_append, List.length_cons, List.length_nil]; omega)]
    simp only [Option.bind_some, List.append_assoc]
    rfl
   ·rw [decide_eq_false hk5, cond_false, if_neg hk5]; rfl
  obtain ⟨f1, f2⟩ := ih k (L ++ exG g) (by omega) (by omega) (by rw [List.length_append]; omega)
  rw [List.append_assoc] at f1 f2
  simp only [whX, e1, e2, Option.bind_some]
  exact ⟨f1, f2⟩
/-- A tableau that is taken: both give one circuit. -/
theorem syn_both {t : TTableau} {n : Nat} (h : Sy t n) : ∃ G, F_spec_l8Synthesize t = some (TCircuit.mk (n : Int) G) ∧ (F_impl_IsValidTableau t = some true → F_impl_SynthesizeClifford t = some (TCircuit.mk (n : Int) G, true)) ∧ G.length ≤ 400 := by
 have hn := h.ok.hn
 obtain ⟨t', gs, e1, e2, e3⟩ := stages h.ok.qb n 0 fuel t [] 0 (by omega) (fuelB (by omega)) h (fun j hj => absurd hj (Nat.not_lt_zero j)) ⟨(fun g hg => by cases hg), Nat.le_refl 0⟩ (by omega)
 have hlen := cst_len gs
 have hco := e3.co
 have hrl := rvt_len gs gs.length (Nat.le_refl _)
 rw [List.take_length] at hrl
 obtain ⟨r1, r2⟩ := rev_both gs (by omega) gs.length fuel [] (Nat.le_refl _) (fuelB (by omega)) (by rw [List.length_nil]; omega)
 have hw : IntKind.i64.wrap ((gs.length : Int) - 1) = (gs.length : Int) - 1 := wrap_i64 ⟨by omega, by omega⟩
 have hG : cOk (TCircuit.mk (n : Int) (rvt gs gs.length)) = true := by
  unfold cOk
  simp only [Bool.and_eq_true, decide_eq_true_eq]
  refine ⟨⟨⟨by omega, by omega⟩, by omega⟩, ?_⟩
  rw [List.all_eq_true]
  exact fun g hg => e3.ok g (rvt_mem gs gs.length (Nat.le_refl _) g hg)
 rw [List.nil_append] at r1 r2
 refine ⟨rvt gs gs.length, ?_, fun hv => ?_, by omega⟩
 ·unfold F_spec_l8Synthesize
  rw [show (0 : Int) = ((0 : Nat) : Int) from rfl, e1]
  simp only [orR, Option.bind_some]
  rw [hw, r1]
  simp only [orR, Option.bind_some]
  rw [h.ok.qb]
 ·unfold F_impl_SynthesizeClifford
  rw [hv]
  simp only [Option.bind_some, Bool.not_true, cond_false]
  rw [show (0 : Int) = ((0 : Nat) : Int) from rfl, e2]
  simp only [orR, Option.bind_some]
  rw [hw, r2]
  simp only [orR, Option.bind_some]
  unfold F_impl_circuitIf
  rw [chk_t (by omega), h.ok.qb, impl_good _ (by simp only; omega), hG]
  rfl

def xp (p r : Nat × Nat) : Nat × Nat := (p.1 ^^^ r.1, p.2 ^^^ r.2)
theorem omT_xp (j : Nat) (p r s : Nat × Nat) : omT j (xp p r) s = (omT j p s ^^ omT j r s) := by
 unfold omT xp
 simp only [Nat.testBit_xor]
 cases p.1.testBit j <;> cases p.2.testBit j <;> cases r.1.testBit j <;> cases r.2.testBit j <;> cases s.1.testBit j <;> cases s.2.testBit j <;> rfl
theorem om_xp (p r s : Nat × Nat) : om (xp p r) s = (om p s ^^ om r s) := by
 unfold om
 rw [omT_xp, omT_xp, omT_xp, omT_xp, omT_xp]
 cases omT 0 p s <;> cases omT 1 p s <;> cases omT 2 p s <;> cases omT 3 p s <;> cases omT 4 p s <;> cases omT 0 r s <;> cases omT 1 r s <;> cases omT 2 r s <;> cases omT 3 r s <;> cases omT 4 r s <;> rfl
theorem om_comm (p r : Nat × Nat) : om p r = om r p := by
 have e : ∀ i, omT i p r = omT i r p := fun i => by
  unfold omT
  cases p.1.testBit i <;> cases p.2.testBit i <;> cases r.1.testBit i <;> cases r.2.testBit i <;> rfl
 unfold om
 rw [e, e, e, e, e]
theorem om_self (p : Nat × Nat) : om p p = false := by
 have e : ∀ i, omT i p p = false := fun i => by
  unfold omT
  cases p.1.testBit i <;> cases p.2.testBit i <;> rfl
 unfold om
 rw [e, e, e, e, e]; rfl
theorem zero_om (p : Nat × Nat) : om (0, 0) p = false := by rw [om_comm]; exact om_zero p
/-- The image, as products of the images of the wires. -/
theorem ixz_step (XI ZI : List TPauli) (px pz i : Nat) : ixz XI ZI px pz (i + 1) = xp (xp (ixz XI ZI px pz i) (if px.testBit i then (xB XI i, zB XI i) else (0, 0))) (if pz.testBit i then (xB ZI i, zB ZI i) else (0, 0)) := by
 simp only [ixz, xp]
 cases px.testBit i <;> cases pz.testBit i <;> simp
/-- With an image of the tableau itself. -/
theorem img_row {G : TTableau} {n : Nat} (h : Sy G n) (px pz : Nat) : ∀ i, i ≤ n → ∀ j, j < n → om (ixz G.XImages G.ZImages px pz i) (BB G j) = (decide (j < i) && pz.testBit j) ∧ om (ixz G.XImages G.ZImages px pz i) (BB G (n + j)) = (decide (j < i) && px.testBit j)
 | 0, _, j, _ => by
  simp only [ixz, zero_om]
  simp
 | i + 1, hi, j, hj => by
  obtain ⟨h1, h2⟩ := img_row h px pz i (by omega) j hj
  have hXi : BB G i = (xB G.XImages i, zB G.XImages i) := BB_x h.ok (by omega)
  have hZi : BB G (n + i) = (xB G.ZImages i, zB G.ZImages i) := BB_z h.ok
  have xx : om (BB G i) (BB G j) = false := by
   rcases Nat.lt_trichotomy i j with hij | hij | hij
   ·rw [om_comm, h.om j i hij (by omega)]; exact decide_eq_false (by omega)
   ·subst hij; exact om_self _
   ·rw [h.om i j hij (by omega)]; exact decide_eq_false (by omega)
  have zz : om (BB G (n + i)) (BB G (n + j)) = false := by
   rcases Nat.lt_trichotomy i j with hij | hij | hij
   ·rw [om_comm, h.om (n + j) (n + i) (by omega) (by omega)]; exact decide_eq_false (by omega)
   ·subst hij; exact om_self _
   ·rw [h.om (n + i) (n + j) (by omega) (by omega)]; exact decide_eq_false (by omega)
  have zx : om (BB G (n + i)) (BB G j) = decide (i = j) := by
   rw [h.om (n + i) j (by omega) (by omega)]
   rw [Bool.eq_iff_iff]; simp only [decide_eq_true_eq]; omega
  have xz : om (BB G i) (BB G (n + j)) = decide (i = j) := by
   rw [om_comm, h.om (n + j) i (by omega) (by omega)]
   rw [Bool.eq_iff_iff]; simp only [decide_eq_true_eq]; omega
  rw [ixz_step, om_xp, om_xp, om_xp, om_xp, h1, h2, ← hXi, ← hZi]
  have c1 : ∀ (b : Bool) (p r : Nat × Nat), om (if b = true then p else (0, 0)) r = (b && om p r) := fun b p r => by
   cases b with
   | false => exact zero_om r
   | true => rfl
  rw [c1, c1, c1, c1, xx, zx, xz, zz]
  have hd : decide (j < i + 1) = (decide (j < i) || decide (i = j)) := by
   rw [Bool.eq_iff_iff]; simp only [decide_eq_true_eq, Bool.or_eq_true]; omega
  rw [hd]
  by_cases hij : i = j
  ·subst hij
   simp
  ·rw [decide_eq_false hij]
   simp

def omn (p r : Nat × Nat) : Nat → Bool
 | 0 => false
 | i + 1 => omn p r i ^^ omT i p r
theorem omn_5 (p r : Nat × Nat) : omn p r 5 = om p r := by
 unfold om
 simp only [omn]
 cases omT 0 p r <;> cases omT 1 p r <;> cases omT 2 p r <;> cases omT 3 p r <;> cases omT 4 p r <;> rfl
theorem omn_up {n : Nat} {p r : Nat × Nat} (h1 : p.1 < 2 ^ n) (h2 : p.2 < 2 ^ n) : ∀ d, omn p r (n + d) = omn p r n
 | 0 => rfl
 | d + 1 => by
  have t1 : p.1.testBit (n + d) = false := Nat.testBit_lt_two_pow (Nat.lt_of_lt_of_le h1 (Nat.pow_le_pow_right (by decide) (by omega)))
  have t2 : p.2.testBit (n + d) = false := Nat.testBit_lt_two_pow (Nat.lt_of_lt_of_le h2 (Nat.pow_le_pow_right (by decide) (by omega)))
  rw [show n + (d + 1) = n + d + 1 by omega]
  simp only [omn]
  rw [omn_up h1 h2 d]
  unfold omT
  rw [t1, t2]; simp
/-- Images commute as what they are images of. -/
theorem img_om {G : TTableau} {n : Nat} (h : Sy G n) {px pz qx qz : Nat} (h1 : px < 2 ^ n) (h2 : pz < 2 ^ n) : om (ixz G.XImages G.ZImages px pz n) (ixz G.XImages G.ZImages qx qz n) = om (px, pz) (qx, qz) := by
 have hn := h.ok.hn
 have key : ∀ i, i ≤ n → om (ixz G.XImages G.ZImages px pz n) (ixz G.XImages G.ZImages qx qz i) = omn (px, pz) (qx, qz) i := by
  intro i
  induction i with
  | zero => intro _; exact om_zero _
  | succ i ih =>
   intro hi
   have hX : BB G i = (xB G.XImages i, zB G.XImages i) := BB_x h.ok (by omega)
   have hZ : BB G (n + i) = (xB G.ZImages i, zB G.ZImages i) := BB_z h.ok
   obtain ⟨r1, r2⟩ := img_row h px pz n (Nat.le_refl n) i (by omega)
   rw [decide_eq_true (show i < n by omega), Bool.true_and] at r1 r2
   have c1 : ∀ (b : Bool) (p r : Nat × Nat), om (if b = true then p else (0, 0)) r = (b && om p r) := fun b p r => by
    cases b with
    | false => exact zero_om r
    | true => rfl
   rw [om_comm, ixz_step, om_xp, om_xp, c1, c1, ← hX, ← hZ, om_comm _ (ixz G.XImages G.ZImages px pz n), om_comm (BB G i), om_comm (BB G (n + i)), ih (by omega), r1, r2]
   simp only [omn, omT]
   cases omn (px, pz) (qx, qz) i <;> cases px.testBit i <;> cases pz.testBit i <;> cases qx.testBit i <;> cases qz.testBit i <;> rfl
 rw [key n (Nat.le_refl n), ← omn_5]
 have := omn_up (p := (px, pz)) (r := (qx, qz)) h1 h2 (5 - n)
 rw [show n + (5 - n) = 5 by omega] at this
 exact this.symm
/-- A composition of such tableaus is one. -/
theorem comp_sy {s G r : TTableau} {n : Nat} (hs : Sy s n) (hG : Sy G n) (hr : TbOk r n) (hb : ∀ q, q < n → ((xB r.XImages q, zB r.XImages q) = ixz G.XImages G.ZImages (xB s.XImages q) (zB s.XImages q) n) ∧ (xB r.ZImages q, zB r.ZImages q) = ixz G.XImages G.ZImages (xB s.ZImages q) (zB s.ZImages q) n) : Sy r n := by
 have row : ∀ q, q < 2 * n → BB r q = ixz G.XImages G.ZImages (BB s q).1 (BB s q).2 n ∧ (BB s q).1 < 2 ^ n ∧ (BB s q).2 < 2 ^ n := fun q hq => by
  rcases Nat.lt_or_ge q n with h1 | h1
  ·rw [BB_x hr h1, BB_x hs.ok h1]
   exact ⟨(hb q h1).1, (hs.ok.lt q h1).1⟩
  ·obtain ⟨k, rfl⟩ : ∃ k, q = n + k := ⟨q - n, by omega⟩
   rw [BB_z hr, BB_z hs.ok]
   exact ⟨(hb k (by omega)).2, (hs.ok.lt k (by omega)).2⟩
 refine ⟨hr, fun i j hji hi => ?_⟩
 obtain ⟨a1, a2, a3⟩ := row i hi
 obtain ⟨b1, _, _⟩ := row j (by omega)
 rw [a1, b1, img_om hG a2 a3]
 exact hs.om i j hji hi
theorem om_par {ax az bx bz : Nat} : sgS ax az bx bz % 2 = (if om (ax, az) (bx, bz) then 1 else 0) := by
 have d : ∀ a b c d : Bool, sgB a b c d % 2 = if ((a && d) ^^ (b && c)) then 1 else 0 := by decide
 have t : ∀ j, sg ax az bx bz j % 2 = if omT j (ax, az) (bx, bz) then 1 else 0 := fun j => d _ _ _ _
 have t0 := t 0; have t1 := t 1; have t2 := t 2; have t3 := t 3; have t4 := t 4
 unfold sgS om
 generalize omT 0 (ax, az) (bx, bz) = o0 at *; generalize omT 1 (ax, az) (bx, bz) = o1 at *; generalize omT 2 (ax, az) (bx, bz) = o2 at *; generalize omT 3 (ax, az) (bx, bz) = o3 at *; generalize omT 4 (ax, az) (bx, bz) = o4 at *
 cases o0 <;> cases o1 <;> cases o2 <;> cases o3 <;> cases o4 <;> simp at * <;> omega

def Ev (t : TTableau) (n : Nat) : Prop := ∀ q, q < 2 * n → ∀ p, (t.XImages ++ t.ZImages)[q]? = some p → p.Phase % 2 = 0
theorem mul_par {a b : TPauli} {ax az bx bz : Nat} (ha : PaOk a ax az) (hb : PaOk b bx bz) (h1 : a.Phase % 2 = 0) (h2 : b.Phase % 2 = 0) : ∃ r, F_spec_l7Mul a b = some r ∧ PaOk r (ax ^^^ bx) (az ^^^ bz) ∧ r.Phase % 2 = if om (ax, az) (bx, bz) then 1 else 0 := by
 refine ⟨_, mul_spec ha hb, ⟨rfl, rfl, x32 ha.hx hb.hx, x32 ha.hz hb.hz, by simp only; omega⟩, ?_⟩
 have h3 := om_par (ax := ax) (az := az) (bx := bx) (bz := bz)
 simp only
 rw [← h3]
 omega
theorem image_even {G : TTableau} {n : Nat} (h : Sy G n) (he : Ev G n) {p : TPauli} {px pz : Nat} (hp : PaOk p px pz) (hpe : p.Phase % 2 = 0) {r : TPauli} (hr : F_spec_l7Image G p = some r) : r.Phase % 2 = 0 := by
 have hn := h.ok.hn
 have hph := hp.ph
 have key : ∀ (d i : Nat) (ph : Int) (x z : Nat), i + d = n → x < 32 → z < 32 → (0 ≤ ph ∧ ph ≤ 3) → ph % 2 = 0 → (x, z) = ixz G.XImages G.ZImages px pz i →
   ∃ (ph1 : Int) (x1 z1 : Nat), forN (F_spec_l7Image_l1 p G) d i (ph, (x : Int), (z : Int)) = some (ph1, (x1 : Int), (z1 : Int)) ∧ ph1 % 2 = 0 := by
  intro d
  induction d with
  | zero =>
   intro i ph x z _ _ _ _ h2 _
   exact ⟨ph, x, z, rfl, h2⟩
  | succ d ih =>
   intro i ph x z hi hx hz h1 h2 h4
   have hin : i < n := by omega
   obtain ⟨xi, gx, ox⟩ := h.ok.px i hin
   obtain ⟨zi, gz, oz⟩ := h.ok.pz i hin
   have hX : BB G i = (xB G.XImages i, zB G.XImages i) := BB_x h.ok hin
   have hZ : BB G (n + i) = (xB G.ZImages i, zB G.ZImages i) := BB_z h.ok
   have ex : xi.Phase % 2 = 0 := he i (by omega) xi (by rw [List.getElem?_append_left (by rw [h.ok.lx]; exact hin)]; exact gx)
   have ez : zi.Phase % 2 = 0 := he (n + i) (by omega) zi (by rw [List.getElem?_append_right (by rw [h.ok.lx]; omega), h.ok.lx, Nat.add_sub_cancel_left]; exact gz)
   have hpX := hp.hx; have hpZ := hp.hz
   obtain ⟨l1, l2, l3⟩ := ltr_bits (px.testBit i) (pz.testBit i)
   obtain ⟨r1, r2⟩ := img_row h px pz i (by omega) i hin
   rw [decide_eq_false (Nat.lt_irrefl i), Bool.false_and] at r1 r2
   rw [← h4, hX] at r1
   rw [← h4, hZ] at r2
   have xz : om (xB G.XImages i, zB G.XImages i) (xB G.ZImages i, zB G.ZImages i) = true := by
    rw [← hX, ← hZ, om_comm, h.om (n + i) i (by omega) (by omega)]
    exact decide_eq_true (by omega)
   have half1 : ∃ (a : Int) (x' z' : Nat), (((bif px.testBit i then ((getI G.XImages (i : Int)).bind fun y => (F_spec_l7Mul (TPauli.mk ph (x : Int) (z : Int)) y).bind fun r_2 => some (r_2.Phase, r_2.X, r_2.Z)) else (some (ph, (x : Int), (z : Int)))) : Option (Int × Int × Int)) = some (a, (x' : Int), (z' : Int))) ∧ x' < 32 ∧ z' < 32 ∧ (0 ≤ a ∧ a ≤ 3) ∧ a % 2 = 0 ∧ om (x', z') (xB G.ZImages i, zB G.ZImages i) = px.testBit i ∧ (x', z') = if px.testBit i then (x ^^^ xB G.XImages i, z ^^^ zB G.XImages i) else (x, z) := by
    cases px.testBit i with
    | false => exact ⟨ph, x, z, rfl, hx, hz, h1, h2, r2, rfl⟩
    | true =>
     obtain ⟨r, e1, e3, e4⟩ := mul_par (a := TPauli.mk ph (x : Int) (z : Int)) (b := xi) ⟨rfl, rfl, hx, hz, h1⟩ ox h2 ex
     rw [r1] at e4
     refine ⟨r.Phase, _, _, ?_, e3.hx, e3.hz, e3.ph, e4, ?_, rfl⟩
     ·rw [cond_true, getI_nat, gx, Option.bind_some, e1, Option.bind_some, e3.ex, e3.ez]
     ·have := om_xp (x, z) (xB G.XImages i, zB G.XImages i) (xB G.ZImages i, zB G.ZImages i)
      rw [r2, xz] at this
      exact this
   obtain ⟨a, x', z', s1, hx', hz', ha, hae, hom, hxz⟩ := half1
   have half2 : ∃ (b : Int) (x'' z'' : Nat), (((bif pz.testBit i then ((getI G.ZImages (i : Int)).bind fun y => (F_spec_l7Mul (TPauli.mk a (x' : Int) (z' : Int)) y).bind fun r_2 => some (r_2.Phase, r_2.X, r_2.Z)) else (some (a, (x' : Int), (z' : Int)))) : Option (Int × Int × Int)) = some (b, (x'' : Int), (z'' : Int))) ∧ x'' < 32 ∧ z'' < 32 ∧ (0 ≤ b ∧ b ≤ 3) ∧ (b % 2 = if px.testBit i && pz.testBit i then 1 else 0) ∧ (x'', z'') = if pz.testBit i then (x' ^^^ xB G.ZImages i, z' ^^^ zB G.ZImages i) else (x', z') := by
    cases pz.testBit i with
    | false => exact ⟨a, x', z', rfl, hx', hz', ha, by rw [Bool.and_false]; exact hae, rfl⟩
    | true =>
     obtain ⟨r, e1, e3, e4⟩ := mul_par (a := TPauli.mk a (x' : Int) (z' : Int)) (b := zi) ⟨rfl, rfl, hx', hz', ha⟩ oz hae ez
     rw [hom] at e4
     refine ⟨r.Phase, _, _, ?_, e3.hx, e3.hz, e3.ph, by rw [Bool.and_true]; exact e4, rfl⟩
     rw [cond_true, getI_nat, gz, Option.bind_some, e1, Option.bind_some, e3.ex, e3.ez]
   obtain ⟨b, x'', z'', s3, hx'', hz'', hb, hbe, hxz'⟩ := half2
   have hixz : (x'', z'') = ixz G.XImages G.ZImages px pz (i + 1) := by
    rw [hxz']
    simp only [ixz, ← h4]
    cases hq : px.testBit i with
    | false => rw [hq] at hxz; cases hxz; rfl
    | true => rw [hq] at hxz; cases hxz; rfl
   have hS : ∃ c, F_spec_l7Image_l1 p G i (ph, (x : Int), (z : Int)) = some (c, (x'' : Int), (z'' : Int)) ∧ (0 ≤ c ∧ c ≤ 3) ∧ c % 2 = 0 := by
    unfold F_spec_l7Image_l1
    simp only
    rw [ltr_spec hpX hpZ p hp.ex hp.ez (by omega)]
    unfold ltr bitZ
    simp only [Option.bind_some]
    rw [l1, l2, l3, s1]
    simp only [Option.bind_some]
    rw [s3]
    simp only [Option.bind_some]
    cases hq : (px.testBit i && pz.testBit i) with
    | false =>
     rw [hq] at hbe
     exact ⟨b, rfl, hb, hbe⟩
    | true =>
     rw [hq] at hbe
     refine ⟨(b + 1) % 4, ?_, by omega, by simp only [if_true] at hbe; omega⟩
     rw [cond_true, wrap_i64 ⟨by omega, by omega⟩, Int.tmod_eq_emod_of_nonneg (by omega)]
     rfl
   obtain ⟨c, hS1, hS2, hS3⟩ := hS
   simp only [forN, hS1, Option.bind_some]
   exact ih (i + 1) c x'' z'' (by omega) hx'' hz'' hS2 hS3 hixz
 obtain ⟨ph1, x1, z1, e1, e2⟩ := key n 0 p.Phase 0 0 (by omega) (by decide) (by decide) hph hpe rfl
 unfold F_spec_l7Image at hr
 rw [h.ok.qb, Int.toNat_natCast, chk_t (by omega), show (0 : Int) = ((0 : Nat) : Int) from rfl, e1] at hr
 simp only [Option.bind_some] at hr
 rw [← Option.some.inj hr]
 exact e2

theorem comp_img {s t r : TTableau} {n : Nat} (hs : TbOk s n) (ht : TbOk t n) (h : F_spec_l7Then s t = some r) : ∀ q, q < n → (∃ a p, s.XImages[q]? = some a ∧ r.XImages[q]? = some p ∧ F_spec_l7Image t a = some p) ∧ ∃ a p, s.ZImages[q]? = some a ∧ r.ZImages[q]? = some p ∧ F_spec_l7Image t a = some p := by
 have hn := hs.hn
 let Good : List TPauli → List TPauli → Nat → Prop := fun L S i => L.length = i ∧ ∀ q, q < i → ∃ a p, S[q]? = some a ∧ L[q]? = some p ∧ F_spec_l7Image t a = some p
 have snoc : ∀ (L S : List TPauli) (i : Nat) (a p : TPauli), Good L S i → S[i]? = some a → F_spec_l7Image t a = some p → Good (L ++ [p]) S (i + 1) := fun L S i a p h ha hp => by
  refine ⟨by rw [List.length_append, h.1]; rfl, fun q hq => ?_⟩
  by_cases hqi : q < i
  ·obtain ⟨a', p', h0, h1, h2⟩ := h.2 q hqi
   exact ⟨a', p', h0, by rw [List.getElem?_append_left (by rw [h.1]; exact hqi)]; exact h1, h2⟩
  ·have : q = i := by omega
   subst this
   exact ⟨a, p, ha, by rw [List.getElem?_append_right (by rw [h.1]; exact Nat.le_refl q), h.1]; simp, hp⟩
 have key : ∀ (d i : Nat) (L M : List TPauli), i + d = n → Good L s.XImages i → Good M s.ZImages i →
   ∃ L' M', forN (F_spec_l7Then_l1 s t) d i (L, M) = some (L', M') ∧ Good L' s.XImages n ∧ Good M' s.ZImages n := by
  intro d
  induction d with
  | zero =>
   intro i L M hi h1 h2
   have : i = n := by omega
   subst this
   exact ⟨L, M, rfl, h1, h2⟩
  | succ d ih =>
   intro i L M hi h1 h2
   have hin : i < n := by omega
   obtain ⟨px, gx, ox⟩ := hs.px i hin
   obtain ⟨pz, gz, oz⟩ := hs.pz i hin
   obtain ⟨⟨b1, b2⟩, b3, b4⟩ := hs.lt i hin
   obtain ⟨r1, e1, e2, e3⟩ := image_both ht ox b1
   obtain ⟨r2, f1, f2, f3⟩ := image_both ht oz b3
   have hl1 := h1.1; have hl2 := h2.1
   have hS : F_spec_l7Then_l1 s t i (L, M) = some (L ++ [r1], M ++ [r2]) := by
    unfold F_spec_l7Then_l1
    simp only
    rw [getI_nat, gx, Option.bind_some, e1, Option.bind_some, chk_t (by omega), getI_nat, gz, Option.bind_some, f1, Option.bind_some, chk_t (by omega)]
   simp only [forN, hS, Option.bind_some]
   exact ih (i + 1) _ _ (by omega) (snoc L _ i px r1 h1 gx e1) (snoc M _ i pz r2 h2 gz f1)
 obtain ⟨L, M, k1, k3, k4⟩ := key n 0 [] [] (by omega) ⟨rfl, fun q hq => absurd hq (Nat.not_lt_zero q)⟩ ⟨rfl, fun q hq => absurd hq (Nat.not_lt_zero q)⟩
 unfold F_spec_l7Then at h
 rw [hs.qb, Int.toNat_natCast, chk_t (by omega), k1] at h
 simp only [Option.bind_some] at h
 rw [← Option.some.inj h]
 exact fun q hq => ⟨k3.2 q hq, k4.2 q hq⟩
theorem comp_ev {s G r : TTableau} {n : Nat} (hs : Sy s n) (es : Ev s n) (hG : Sy G n) (eG : Ev G n) (hr : TbOk r n) (h : F_spec_l7Then s G = some r) : Ev r n := fun q hq p hp => by
 have hi := comp_img hs.ok hG.ok h
 rcases Nat.lt_or_ge q n with h1 | h1
 ·obtain ⟨a, p', g1, g2, g3⟩ := (hi q h1).1
  rw [List.getElem?_append_left (by rw [hr.lx]; exact h1)] at hp
  rw [g2] at hp
  rw [← Option.some.inj hp]
  obtain ⟨a', ga, oa⟩ := hs.ok.px q h1
  rw [g1] at ga
  rw [← Option.some.inj ga] at oa
  exact image_even hG eG oa (es q hq a (by rw [List.getElem?_append_left (by rw [hs.ok.lx]; exact h1)]; exact g1)) g3
 ·obtain ⟨k, rfl⟩ : ∃ k, q = n + k := ⟨q - n, by omega⟩
  obtain ⟨a, p', g1, g2, g3⟩ := (hi k (by omega)).2
  rw [List.getElem?_append_right (by rw [hr.lx]; omega), hr.lx, Nat.add_sub_cancel_left] at hp
  rw [g2] at hp
  rw [← Option.some.inj hp]
  obtain ⟨a', ga, oa⟩ := hs.ok.pz k (by omega)
  rw [g1] at ga
  rw [← Option.some.inj ga] at oa
  exact image_even hG eG oa (es (n + k) hq a (by rw [List.getElem?_append_right (by rw [hs.ok.lx]; omega), hs.ok.lx, Nat.add_sub_cancel_left]; exact g1)) g3

theorem tab_true {t : TTableau} {n : Nat} (h : Sy t n) (he : Ev t n) : F_impl_IsValidTableau t = some true := by
 have hn := h.ok.hn
 have hx := h.ok.lx; have hz := h.ok.lz; have hq := h.ok.qb
 have hal : (t.XImages ++ t.ZImages).length = 2 * n := by rw [List.length_append]; omega
 have hrow : ∀ q p, (t.XImages ++ t.ZImages)[q]? = some p → PaOk p (BB t q).1 (BB t q).2 ∧ imB n p = true := fun q p hp => by
  have hql : q < 2 * n := by have := (List.getElem?_eq_some_iff.1 hp).1; omega
  have hev := he q hql p hp
  have fin_ : ∀ {x z : Nat}, PaOk p x z → x < 2 ^ n → z < 2 ^ n → imB n p = true := fun {x z} o h1 h2 => by
   have := o.ph; have := o.ex; have := o.ez
   unfold imB
   have hpp : p.Phase = 0 ∨ p.Phase = 2 := by omega
   rw [decide_eq_true (show (0 ≤ p.Phase ∧ p.Phase ≤ 3) ∧ (0 ≤ p.X ∧ p.X ≤ ((2 ^ n : Nat) : Int) - 1) ∧ (0 ≤ p.Z ∧ p.Z ≤ ((2 ^ n : Nat) : Int) - 1) by omega)]
   rcases hpp with e | e <;> rw [e] <;> rfl
  rcases Nat.lt_or_ge q n with h1 | h1
  ·obtain ⟨a, g, o⟩ := h.ok.px q h1
   rw [List.getElem?_append_left (by rw [hx]; exact h1), g] at hp
   rw [Option.some.inj hp] at o
   rw [BB_x h.ok h1]
   exact ⟨o, fin_ o (h.ok.lt q h1).1.1 (h.ok.lt q h1).1.2⟩
  ·obtain ⟨k, rfl⟩ : ∃ k, q = n + k := ⟨q - n, by omega⟩
   obtain ⟨a, g, o⟩ := h.ok.pz k (by omega)
   rw [List.getElem?_append_right (by rw [hx]; omega), hx, Nat.add_sub_cancel_left, g] at hp
   rw [Option.some.inj hp] at o
   rw [BB_z h.ok]
   exact ⟨o, fin_ o (h.ok.lt k (by omega)).2.1 (h.ok.lt k (by omega)).2.2⟩
 have hiv : ∀ p : TPauli, F_impl_isImage t.Qubits p = some (imB n p) := fun p => by
  unfold F_impl_isImage imB
  rw [hq, pauli_impl hn]; rfl
 have hget : ∀ i, i < 2 * n → ∃ p, (t.XImages ++ t.ZImages)[i]? = some p := fun i hi => ⟨_, List.getElem?_eq_getElem (by omega)⟩
 have hci : F_slices_ContainsFunc_impl_Pauli_impl_Pauli (t.XImages ++ t.ZImages) (fun x_0 => F_impl_IsValidTableau_1 x_0 t.Qubits) = some false := by
  have hf : ∀ i x, (t.XImages ++ t.ZImages)[i]? = some x → F_slices_IndexFunc_impl_Pauli_impl_Pauli_l1 (t.XImages ++ t.ZImages) (fun x_0 => F_impl_IsValidTableau_1 x_0 t.Qubits) i () = some (bif (fun _ => false) x then .rt (i : Int) else .nx ()) := fun i x hx => by
   unfold F_slices_IndexFunc_impl_Pauli_impl_Pauli_l1 F_impl_IsValidTableau_1
   simp only
   rw [getI_nat, hx, Option.bind_some, hiv, Option.bind_some, Option.bind_some, (hrow i x hx).2]
   rfl
  unfold F_slices_ContainsFunc_impl_Pauli_impl_Pauli F_slices_IndexFunc_impl_Pauli_impl_Pauli
  rw [chk_t (by omega)]
  rcases forX_any hf with ⟨g1, g2⟩ | ⟨g1, i, _, g2⟩
  ·rw [g2]; rfl
  ·simp at g1
 have hp2 : ∀ i, i < 2 * n → forX (F_impl_IsValidTableau_l2 (t.XImages ++ t.ZImages) i t) i 0 () = some (.inl ()) := fun i hi => by
  have hf : ∀ j y, (List.range i)[j]? = some y → F_impl_IsValidTableau_l2 (t.XImages ++ t.ZImages) i t j () = some (bif (fun _ => false) y then .rt ((fun _ => Ex.rt false) j) else .nx ()) := fun j y hy => by
   have hji : j < i := by have := (List.getElem?_eq_some_iff.1 hy).1; simpa using this
   obtain ⟨x, hgx⟩ := hget i hi
   obtain ⟨z, hgz⟩ := hget j (by omega)
   have o1 := (hrow i x hgx).1
   have o2 := (hrow j z hgz).1
   unfold F_impl_IsValidTableau_l2
   rw [getI_nat, hgx, Option.bind_some, getI_nat, hgz, Option.bind_some, comm_impl o1 o2, Option.bind_some, hq, wrap_i64 ⟨by omega, by omega⟩]
   have e : ((i : Int) - (j : Int) == (n : Int)) = decide (i = j + n) := by rw [Bool.eq_iff_iff]; simp only [beq_iff_eq, decide_eq_true_eq]; omega
   have ho : om ((BB t i).1, (BB t i).2) ((BB t j).1, (BB t j).2) = decide (i = j + n) := h.om i j hji hi
   rw [e, ho]
   cases decide (i = j + n) <;> rfl
  have := forX_any hf
  rw [List.length_range] at this
  rcases this with ⟨g1, g2⟩ | ⟨g1, k, _, g2⟩
  ·exact g2
  ·simp at g1
 unfold F_impl_IsValidTableau
 rw [show F_impl_within t.Qubits 1 5 = some (decide (1 ≤ t.Qubits) && decide (t.Qubits ≤ 5)) from rfl, hq, hx, hz]
 simp only [Option.bind_some]
 rw [show ((!(decide (1 ≤ (n : Int)) && decide ((n : Int) ≤ 5)) || (n : Int) != (n : Int)) || (n : Int) != (n : Int)) = false by simp; omega, cond_false, concat_eq (by omega)]
 simp only [Option.bind_some]
 rw [← hq, hci]
 simp only [Option.bind_some, cond_false]
 rw [chk_t (by omega), hal]
 have fI : ∀ i y, (List.range (2 * n))[i]? = some y → F_impl_IsValidTableau_l1 (t.XImages ++ t.ZImages) t i () = some (bif (fun _ => false) y then .rt ((fun _ => false) i) else .nx ()) := fun i y hy => by
  have hi : i < 2 * n := by have := (List.getElem?_eq_some_iff.1 hy).1; simpa using this
  unfold F_impl_IsValidTableau_l1
  rw [chk_t (by omega), hp2 i hi]
  rfl
 have gJ := forX_any fI
 rw [List.length_range] at gJ
 rcases gJ with ⟨i1, i2⟩ | ⟨i1, k, _, i2⟩
 ·rw [i2]; rfl
 ·simp at i1

def syB (n : Nat) (t : TTableau) : Bool := (List.range (2 * n)).all fun i => (List.range i).all fun j => om (BB t i) (BB t j) == decide (i = j + n)
def evB (t : TTableau) : Bool := (t.XImages ++ t.ZImages).all fun p => decide (p.Phase % 2 = 0)
def tgB (n : Nat) (o o' : Option TTableau) : Bool := match o with | some t => decide (o' = some t) && tbB n t && syB n t && evB t | none => false
theorem tg_of {n : Nat} {o o' : Option TTableau} (h : tgB n o o' = true) : ∃ t, o = some t ∧ o' = some t ∧ Sy t n ∧ Ev t n := by
 cases o with
 | none => cases h
 | some t =>
  unfold tgB at h
  simp only [Bool.and_eq_true, decide_eq_true_eq] at h
  obtain ⟨⟨⟨h1, h2⟩, h3⟩, h4⟩ := h
  refine ⟨t, rfl, h1, ⟨tb_of h2, fun i j hji hi => ?_⟩, fun q hq p hp => ?_⟩
  ·unfold syB at h3
   have := List.all_eq_true.1 (List.all_eq_true.1 h3 i (List.mem_range.2 hi)) j (List.mem_range.2 hji)
   exact eq_of_beq this
  ·unfold evB at h4
   have := List.all_eq_true.1 h4 p (List.mem_of_getElem? hp)
   simpa using this
theorem tg_1 : ∀ n : Fin 6, 1 ≤ n.val → ∀ a : Fin 5, a.val < n.val → ∀ k : Fin 7, 1 ≤ k.val → tgB n.val (F_spec_l7Gate (n.val : Int) (TGate.mk (k.val : Int) (a.val : Int) 0)) (F_impl_gateTableau (n.val : Int) (TGate.mk (k.val : Int) (a.val : Int) 0)) = true := by decide +kernel
theorem tg_2 : ∀ n : Fin 6, 1 ≤ n.val → ∀ a : Fin 5, a.val < n.val → ∀ b : Fin 5, b.val < n.val → a ≠ b → ∀ k : Fin 12, 9 ≤ k.val → tgB n.val (F_spec_l7Gate (n.val : Int) (TGate.mk (k.val : Int) (a.val : Int) (b.val : Int))) (F_impl_gateTableau (n.val : Int) (TGate.mk (k.val : Int) (a.val : Int) (b.val : Int))) = true := by decide +kernel
theorem tg_12 : ∀ n : Fin 6, 1 ≤ n.val → tgB n.val (F_spec_l7Gate (n.val : Int) (TGate.mk 12 0 0)) (F_impl_gateTableau (n.val : Int) (TGate.mk 12 0 0)) = true := by decide +kernel
theorem tg_id : ∀ n : Fin 6, 1 ≤ n.val → tgB n.val (F_spec_l7Identity (n.val : Int)) (F_impl_identity (n.val : Int)) = true := by decide +kernel
/-- A gate that is no T gate. -/
theorem tg_gate {n : Nat} (hn : 1 ≤ n ∧ n ≤ 5) {g : TGate} (h : gOk (n : Int) g = true) (h7 : g.Kind ≠ 7) (h8 : g.Kind ≠ 8) : ∃ t, F_spec_l7Gate (n : Int) g = some t ∧ F_impl_gateTableau (n : Int) g = some t ∧ Sy t n ∧ Ev t n := by
 obtain ⟨k, A, B⟩ := g
 simp only at h7 h8
 unfold gOk at h
 simp only at h
 by_cases h1 : 1 ≤ k ∧ k ≤ 8
 ·have e : (decide (1 ≤ k) && decide (k ≤ 8)) = true := by simp [h1]
  rw [e, cond_true] at h
  simp at h
  obtain ⟨⟨a1, a2⟩, rfl⟩ := h
  obtain ⟨a, rfl⟩ : ∃ a : Nat, A = (a : Int) := ⟨A.toNat, by omega⟩
  obtain ⟨k', rfl⟩ : ∃ k' : Nat, k = (k' : Int) := ⟨k.toNat, by omega⟩
  exact tg_of (tg_1 ⟨n, by omega⟩ hn.1 ⟨a, by omega⟩ (show a < n by omega) ⟨k', by omega⟩ (show 1 ≤ k' by omega))
 ·have e : (decide (1 ≤ k) && decide (k ≤ 8)) = false := by simp; omega
  rw [e, cond_false] at h
  by_cases h2 : 9 ≤ k ∧ k ≤ 11
  ·have e : (decide (9 ≤ k) && decide (k ≤ 11)) = true := by simp [h2]
   rw [e, cond_true] at h
   simp at h
   obtain ⟨⟨⟨a1, a2⟩, b1, b2⟩, hab⟩ := h
   obtain ⟨a, rfl⟩ : ∃ a : Nat, A = (a : Int) := ⟨A.toNat, by omega⟩
   obtain ⟨b, rfl⟩ : ∃ b : Nat, B = (b : Int) := ⟨B.toNat, by omega⟩
   obtain ⟨k', rfl⟩ : ∃ k' : Nat, k = (k' : Int) := ⟨k.toNat, by omega⟩
   exact tg_of (tg_2 ⟨n, by omega⟩ hn.1 ⟨a, by omega⟩ (show a < n by omega) ⟨b, by omega⟩ (show b < n by omega) (fun e => hab (by have := congrArg Fin.val e; simp only at this; omega)) ⟨k', by omega⟩ (show 9 ≤ k' by omega))
  ·have e : (decide (9 ≤ k) && decide (k ≤ 11)) = false := by simp; omega
   rw [e, cond_false] at h
   simp at h
   obtain ⟨⟨rfl, rfl⟩, rfl⟩ := h
   exact tg_of (tg_12 ⟨n, by omega⟩ hn.1)

def isTg (g : TGate) : Bool := (g.Kind == 7) || (g.Kind == 8)
theorem cnt_both {c : TCircuit} (hl : c.Gates.length ≤ 400) : ∃ k : Nat, forN (F_spec_l4Count_l1 c 7 8) c.Gates.length 0 0 = some (k : Int) ∧ forN (F_impl_counted_l1 c F_impl_isT) c.Gates.length 0 0 = some (k : Int) ∧ (k = 0 → ∀ g ∈ c.Gates, isTg g = false) := by
 have key : ∀ (d i a : Nat), i + d = c.Gates.length → a ≤ i → ∃ k : Nat, forN (F_spec_l4Count_l1 c 7 8) d i (a : Int) = some (k : Int) ∧ forN (F_impl_counted_l1 c F_impl_isT) d i (a : Int) = some (k : Int) ∧ a ≤ k ∧ (k = a → ∀ j, i ≤ j → ∀ g, c.Gates[j]? = some g → isTg g = false) := by
  intro d
  induction d with
  | zero =>
   intro i a hi _
   exact ⟨a, rfl, rfl, Nat.le_refl a, fun _ j hj g hg => by have := (List.getElem?_eq_some_iff.1 hg).1; omega⟩
  | succ d ih =>
   intro i a hi ha
   have gx := List.getElem?_eq_getElem (show i < c.Gates.length by omega)
   generalize c.Gates[i]'(by omega) = x at gx
   have ht : (decide (7 ≤ x.Kind) && decide (x.Kind ≤ 8)) = isTg x := by
    unfold isTg
    rw [Bool.eq_iff_iff]; simp; omega
   have hw : IntKind.i64.wrap ((a : Int) + 1) = ((a + 1 : Nat) : Int) := wrap_i64 ⟨by omega, by omega⟩
   have e1 : F_spec_l4Count_l1 c 7 8 i (a : Int) = some ((if isTg x = true then a + 1 else a : Nat) : Int) := by
    unfold F_spec_l4Count_l1
    rw [getI_nat, gx]
    simp only [Option.bind_some, hw]
    rw [show F_spec_l1In x.Kind 7 8 = some (decide (7 ≤ x.Kind) && decide (x.Kind ≤ 8)) from rfl, ht]
    simp only [Option.bind_some]
    cases isTg x <;> rfl
   have e2 : F_impl_counted_l1 c F_impl_isT i (a : Int) = some ((if isTg x = true then a + 1 else a : Nat) : Int) := by
    unfold F_impl_counted_l1 F_impl_isT
    rw [getI_nat, gx]
    simp only [Option.bind_some, hw]
    show (bif isTg x then _ else _ : Option Int).bind _ = _
    cases isTg x <;> rfl
   simp only [forN, e1, e2, Option.bind_some]
   cases hx : isTg x with
   | true =>
    simp only [if_true]
    obtain ⟨k, k1, k2, k3, _⟩ := ih (i + 1) (a + 1) (by omega) (by omega)
    exact ⟨k, k1, k2, by omega, fun h => by omega⟩
   | false =>
    simp only [Bool.false_eq_true, if_false]
    obtain ⟨k, k1, k2, k3, k4⟩ := ih (i + 1) a (by omega) (by omega)
    refine ⟨k, k1, k2, k3, fun h j hj g hg => ?_⟩
    rcases Nat.lt_or_ge i j with h1 | h1
    ·exact k4 h j (by omega) g hg
    ·have : j = i := by omega
     subst this
     rw [gx] at hg
     rw [← Option.some.inj hg]; exact hx
 obtain ⟨k, k1, k2, _, k4⟩ := key c.Gates.length 0 0 (by omega) (Nat.le_refl 0)
 refine ⟨k, k1, k2, fun h g hg => ?_⟩
 obtain ⟨j, hj⟩ := List.getElem?_of_mem hg
 exact k4 h j (Nat.zero_le j) g hj
theorem tabOf_both {c : TCircuit} {n : Nat} (hn : 1 ≤ n ∧ n ≤ 5) (hq : c.Qubits = (n : Int)) (hl : c.Gates.length ≤ 400) (hg : ∀ g ∈ c.Gates, gOk (n : Int) g = true ∧ isTg g = false) :
  ∃ t I, F_spec_l7Identity (n : Int) = some I ∧ F_impl_identity (n : Int) = some I ∧ forN (F_spec_l7Of_l1 c) c.Gates.length 0 (I.Qubits, I.XImages, I.ZImages) = some (t.Qubits, t.XImages, t.ZImages) ∧ forN (F_impl_TableauOf_l1 c) c.Gates.length 0 (I.Qubits, I.XImages, I.ZImages) = some (t.Qubits, t.XImages, t.ZImages) ∧ Sy t n ∧ Ev t n := by
 obtain ⟨I, i1, i2, i3, i4⟩ := tg_of (tg_id ⟨n, by omega⟩ hn.1)
 have key : ∀ (d i : Nat) (t : TTableau), i + d = c.Gates.length → Sy t n → Ev t n → ∃ t' : TTableau, forN (F_spec_l7Of_l1 c) d i (t.Qubits, t.XImages, t.ZImages) = some (t'.Qubits, t'.XImages, t'.ZImages) ∧ forN (F_impl_TableauOf_l1 c) d i (t.Qubits, t.XImages, t.ZImages) = some (t'.Qubits, t'.XImages, t'.ZImages) ∧ Sy t' n ∧ Ev t' n := by
  intro d
  induction d with
  | zero => intro i t _ h1 h2; exact ⟨t, rfl, rfl, h1, h2⟩
  | succ d ih =>
   intro i t hi h1 h2
   have gx := List.getElem?_eq_getElem (show i < c.Gates.length by omega)
   have mx : c.Gates[i]'(by omega) ∈ c.Gates := List.getElem_mem _
   generalize c.Gates[i]'(by omega) = x at gx mx
   obtain ⟨x1, x2⟩ := hg x mx
   unfold isTg at x2
   simp only [Bool.or_eq_false_iff, beq_eq_false_iff_ne] at x2
   obtain ⟨G, g1, g2, g3, g4⟩ := tg_gate hn x1 x2.1 x2.2
   obtain ⟨r, c1, c2, c3, c4⟩ := comp_both h1.ok g3.ok
   have e1 : F_spec_l7Of_l1 c i (t.Qubits, t.XImages, t.ZImages) = some (r.Qubits, r.XImages, r.ZImages) := by
    unfold F_spec_l7Of_l1
    simp only
    rw [getI_nat, gx, Option.bind_some, hq, g1, Option.bind_some, show TTableau.mk t.Qubits t.XImages t.ZImages = t from rfl, c1]; rfl
   have e2 : F_impl_TableauOf_l1 c i (t.Qubits, t.XImages, t.ZImages) = some (r.Qubits, r.XImages, r.ZImages) := by
    unfold F_impl_TableauOf_l1
    simp only
    rw [getI_nat, gx, Option.bind_some, hq, g2, Option.bind_some, show TTableau.mk t.Qubits t.XImages t.ZImages = t from rfl, c2]; rfl
   simp only [forN, e1, e2, Option.bind_some]
   exact ih (i + 1) r (by omega) (comp_sy h1 g3 c3 c4) (comp_ev h1 h2 g3 g4 c3 c1)
 obtain ⟨t, k1, k2, k3, k4⟩ := key c.Gates.length 0 I (by omega) i3 i4
 exact ⟨t, I, i1, i2, k1, k2, k3, k4⟩
theorem norm_both {c : TCircuit} (hlen : c.Gates.length ≤ 1048576) : ∃ r b, F_spec_NormalizeClifford c = some (r, b) ∧ F_impl_NormalizeClifford c = some (r, b) ∧ r.Gates.length ≤ 1099511627776 := by
 have hi := impl_good c hlen
 unfold F_spec_NormalizeClifford F_spec_l7Clifford F_spec_CountT F_impl_NormalizeClifford F_impl_TableauOf F_impl_CountT F_impl_counted
 rw [spec_good, hi]
 cases hc : cOk c with
 | false => exact ⟨TCircuit.mk 0 [], false, rfl, rfl, by decide⟩
 | true =>
  have hc' := hc
  unfold cOk at hc'
  simp only [Bool.and_eq_true, decide_eq_true_eq] at hc'
  obtain ⟨⟨⟨q1, q2⟩, hl⟩, hall⟩ := hc'
  obtain ⟨n, hq⟩ : ∃ n : Nat, c.Qubits = (n : Int) := ⟨c.Qubits.toNat, by omega⟩
  obtain ⟨k, k1, k2, k3⟩ := cnt_both hl
  unfold F_spec_l4Count
  simp only [Option.bind_some, Bool.not_true, cond_false]
  rw [chk_t (by omega), chk_t (by omega), k1, k2]
  simp only [Option.bind_some]
  by_cases hk : k = 0
  ·subst hk
   rw [show (true && (((0 : Nat) : Int) == 0)) = true from rfl, show (!true || decide (0 < ((0 : Nat) : Int))) = false from rfl]
   simp only [Bool.not_true, cond_false]
   obtain ⟨t, I, t1, t2, t3, t4, t5, t6⟩ := tabOf_both (c := c) (n := n) (by omega) hq hl (fun g hg => ⟨by rw [← hq]; exact List.all_eq_true.1 hall g hg, k3 rfl g hg⟩)
   unfold F_spec_l7Of
   rw [hq, t1, t2]
   simp only [Option.bind_some]
   rw [chk_t (by omega), chk_t (by omega), t3, t4]
   simp only [Option.bind_some, Bool.not_true, cond_false]
   obtain ⟨G, g1, g2, g3⟩ := syn_both t5
   have hT : TTableau.mk t.Qubits t.XImages t.ZImages = t := rfl
   rw [hT, g1, g2 (tab_true t5 t6)]
   exact ⟨TCircuit.mk (n : Int) G, true, rfl, rfl, by simp only; omega⟩
  ·rw [show (true && ((k : Int) == 0)) = false by simp; omega, show (!true || decide (0 < (k : Int))) = true by simp; omega]
   exact ⟨TCircuit.mk 0 [], false, rfl, rfl, by decide⟩

theorem wn_succ {k : Int} (h0 : 0 ≤ k) (h : k + 1 ≤ 9223372036854775807) : IntKind.i64.wrap (k + 1) = k + 1 := wrap_i64 ⟨by omega, by omega⟩
theorem to_GateS (a : List TGate) (h : a.length ≤ 1099511627776) : F_laws_toGateS a = some a := by
 unfold F_laws_toGateS
 rw [chk_t (by omega), chk_t (by omega), forN_fill (a := a) (by simp) (fun i out x hx ho => ?_)]
 ·rfl
 ·have hi := (List.getElem?_eq_some_iff.1 hx).1
  unfold F_laws_toGateS_l1 F_laws_toGate
  simp [getI_nat, hx, List.getElem?_eq_getElem (show i < out.length by omega)]
theorem sz_GateS (a : List TGate) (left : Int) (h : 0 ≤ left ∧ left ≤ 1048576) (ha : a.length ≤ 9223372036854775807) :
  (∃ s, F_laws_szGateS a left = some s ∧ (0 ≤ s ∧ s ≤ 1048576) ∧ a.length ≤ 1048576) ∨ ∃ s, F_laws_szGateS a left = some s ∧ s < 0 := by
 unfold F_laws_szGateS
 rw [wrap_i64 (a := left - (a.length : Int)) ⟨by omega, by omega⟩]
 by_cases hs : left - (a.length : Int) < 0
 ·rw [decide_eq_true hs]; exact .inr ⟨_, rfl, by decide⟩
 ·rw [decide_eq_false hs]; exact .inl ⟨_, rfl, ⟨by omega, by omega⟩, by omega⟩
theorem eqr_GateS (a : List TGate) (h : a.length ≤ 1099511627776) : F_laws_eqGateS a a = some true := by
 unfold F_laws_eqGateS
 simp only [bne_self_eq_false, cond_false]
 rw [chk_t (by omega), forX_pass (fun i hi => ?_)]
 ·simp [orR]
 ·unfold F_laws_eqGateS_l1 F_laws_eqGate
  simp [getI_nat, List.getElem?_eq_getElem hi]
theorem mk_GateS (a : List TGate) (k : Int) (h0 : 0 ≤ k) (h : k ≤ 1152921504606846976) (ha : a.length ≤ 1099511627776) : ∃ m, F_laws_markGateS a k = some (k + a.length * 3, m) ∧ F_laws_heldGateS m k = some (k + a.length * 3) := by
 obtain ⟨m, h1, hl, h2⟩ := mark_held (mk := fun (x : TGate) k => TGate.mk k (IntKind.i64.wrap (k + 1)) (IntKind.i64.wrap ((IntKind.i64.wrap (k + 1)) + 1))) (nx := fun k => (IntKind.i64.wrap ((IntKind.i64.wrap ((IntKind.i64.wrap (k + 1)) + 1)) + 1)))
  (f := F_laws_markGateS_l1) (g := F_laws_heldGateS_l1)
  (fun i m k x hx => by unfold F_laws_markGateS_l1; simp [getI_nat, hx]) (fun m i k x hx => by unfold F_laws_heldGateS_l1; simp [getI_nat, hx]) a k
 have hn := iter_add (c := 3) (nx := fun k => (IntKind.i64.wrap ((IntKind.i64.wrap ((IntKind.i64.wrap (k + 1)) + 1)) + 1))) (by omega) (fun k hk hk' => by simp (disch := omega) only [wn_succ] <;> omega) a.length k h0 (by omega)
 refine ⟨m, ?_, ?_⟩
 ·unfold F_laws_markGateS; rw [chk_t (by omega), h1, hn]; rfl
 ·unfold F_laws_heldGateS; rw [chk_t (by omega), h2, hn]; rfl
theorem to_Circuit (a : TCircuit) (h0 : a.Gates.length ≤ 1099511627776) : F_laws_toCircuit a = some a := by
 unfold F_laws_toCircuit; simp only [to_GateS a.Gates h0, Option.bind_some]
theorem eqr_Circuit (a : TCircuit) (h0 : a.Gates.length ≤ 1099511627776) : F_laws_eqCircuit a a = some true := by
 unfold F_laws_eqCircuit; simp [eqr_GateS a.Gates h0]
theorem sz_Circuit (a : TCircuit) (left : Int) (h : 0 ≤ left ∧ left ≤ 1048576) (h0 : a.Gates.length ≤ 9223372036854775807) :
  (∃ s, F_laws_szCircuit a left = some s ∧ (0 ≤ s ∧ s ≤ 1048576) ∧ a.Gates.length ≤ 1048576) ∨ ∃ s, F_laws_szCircuit a left = some s ∧ s < 0 := by
 unfold F_laws_szCircuit
 rcases sz_GateS a.Gates left h h0 with ⟨s0, e0, b0, t0_0⟩ | ⟨s0, e0, b0⟩
 rotate_left
 ·exact .inr ⟨_, by rw [e0]; simp only [Option.bind_some, decide_eq_true b0, cond_true]; first | rfl | skip, by decide⟩
 rw [e0]
 simp only [Option.bind_some, decide_eq_false (show ¬ s0 < 0 by omega), cond_false]
 exact .inl ⟨_, rfl, b0, t0_0⟩
theorem mk_Circuit (a : TCircuit) (k : Int) (h0' : 0 ≤ k) (h : k ≤ 1125899906842624) (h0 : a.Gates.length ≤ 1099511627776) : ∃ m0, F_laws_markCircuit a k = some (k + a.Gates.length * 3, m0) ∧ F_laws_heldCircuit (TCircuit.mk a.Qubits m0) k = some (k + a.Gates.length * 3) := by
 obtain ⟨m0, e0, g0⟩ := mk_GateS a.Gates (k) (by omega) (by omega) h0
 refine ⟨m0, ?_, ?_⟩
 ·unfold F_laws_markCircuit; simp only [e0, Option.bind_some]
 ·unfold F_laws_heldCircuit; simp only
  rw [g0]; simp only [Option.bind_some]
  rw [show decide (k + (a.Gates.length : Int) * 3 < 0) = false from decide_eq_false (by omega)]; simp only [cond_false]
/-- The law, where the two answer alike. -/
theorem law_of (a0 : TCircuit) (ok0 : ok_Circuit a0) (hb : a0.Gates.length ≤ 1048576 → ∃ (r0 : TCircuit) (r1 : Bool), F_spec_NormalizeClifford a0 = some (r0, r1) ∧ F_impl_NormalizeClifford a0 = some (r0, r1) ∧ r0.Gates.length ≤ 1099511627776) : F_laws_FnExactNormalizeClifford a0 = some true := by
 unfold F_laws_FnExactNormalizeClifford
 rcases sz_Circuit a0 1048576 ⟨by decide, by decide⟩ ok0.2.1 with ⟨s0, e0, b0, t0_0⟩ | ⟨s0, e0, b0⟩
 rotate_left
 ·simp only [e0, Option.bind_some, decide_eq_true b0, cond_true]
 obtain ⟨r0, r1, hs, hi, m0⟩ := hb t0_0
 obtain ⟨ka0, ma0_0, fa0, ga0⟩ : ∃ k' ma0_0, F_laws_markCircuit a0 (1) = some (k', ma0_0) ∧ 0 ≤ k' ∧ k' ≤ 1 + 35184372088832 := by
  obtain ⟨ma0_0, e, _⟩ := mk_Circuit a0 (1) (by omega) (by omega) (by omega)
  exact ⟨_, ma0_0, e, by omega, by omega⟩
 obtain ⟨kr0, mr0_0, fr0, gr0, hr0⟩ : ∃ k' mr0_0, F_laws_markCircuit r0 (1) = some (k', mr0_0) ∧ F_laws_heldCircuit (TCircuit.mk r0.Qubits mr0_0) (1) = some k' ∧ (0 ≤ k' ∧ k' ≤ 1 + 35184372088832) := by
  obtain ⟨mr0_0, e, g⟩ := mk_Circuit r0 (1) (by omega) (by omega) m0
  exact ⟨_, mr0_0, e, g, by omega, by omega⟩
 simp only [e0, decide_eq_false (show ¬ s0 < 0 by omega), cond_false, Option.bind_some, to_Circuit a0 (by omega), eqr_Circuit a0 (by omega), fa0, decide_eq_false (show ¬ ka0 < 0 by omega), hs, hi, eqr_Circuit r0 m0, fr0, gr0, decide_eq_false (show ¬ kr0 < 0 by omega), cond_true, gb, Bool.not_true, Bool.not_false, Bool.or_false, Bool.false_or, Bool.or_self, beq_self_eq_true, bne_self_eq_false]
theorem law_FnExactNormalizeClifford (a0 : TCircuit) (ok0 : ok_Circuit a0) : F_laws_FnExactNormalizeClifford a0 = some true :=
 law_of a0 ok0 (fun h0 => norm_both h0)
end Go.VK
