/- The plain law of FnPhaseAlgebra: what its Lean function answers, for all arguments. -/
import Derived.Test.YtchihdcajdocgaaLPhaseAlgebraFn
import Derived.Test.YtchihdcajdocgaaLibI
set_option maxRecDepth 10000
set_option maxHeartbeats 1000000
set_option linter.unusedSimpArgs false
set_option linter.unusedVariables false
namespace Go.VK
theorem whX_inv {σ ρ : Type} {f : σ → Option (Ex σ ρ)} (I : σ → Prop) (Q : σ → Prop) (Qr : ρ → Prop) (m : σ → Nat)
    (h : ∀ s, I s → (∃ s', f s = some (.nx s') ∧ I s' ∧ m s' < m s) ∨ (∃ s', f s = some (.br s') ∧ Q s') ∨ ∃ r, f s = some (.rt r) ∧ Qr r) :
    ∀ (k : Nat) (s : σ), I s → m s < k → (∃ s', whX f k s = some (.inl s') ∧ Q s') ∨ ∃ r, whX f k s = some (.inr r) ∧ Qr r
  | 0, _, _, hm => absurd hm (Nat.not_lt_zero _)
  | k + 1, s, hI, hm => by
    rcases h s hI with ⟨s', h1, h2, h3⟩ | ⟨s', h1, h2⟩ | ⟨r, h1, h2⟩
    · rcases whX_inv I Q Qr m h k s' h2 (by omega) with ⟨s'', h4, h5⟩ | ⟨r, h4, h5⟩
      · exact .inl ⟨s'', by simp only [whX, h1, Option.bind_some]; exact h4, h5⟩
      · exact .inr ⟨r, by simp only [whX, h1, Option.bind_some]; exact h4, h5⟩
    · exact .inl ⟨s', by simp only [whX, h1, Option.bind_some], h2⟩
    · exact .inr ⟨r, by simp only [whX, h1, Option.bind_some], h2⟩
def rZero : TRing := TRing.mk 0 0 0 0
def dZero : TDyadic := TDyadic.mk rZero 0
def rRoot (x : TRing) : TRing := TRing.mk (x.B - x.D) (x.A + x.C) (x.B + x.D) (x.C - x.A)
def cB (b : Bool) : Tl2C := Tl2C.mk b
/-- The specification's step f, from whatever flag, ends in the number o, the flag as it was; or, if there is none, in some number and the flag set. -/
def SP {α : Type} (f : Tl2C → Option (α × Tl2C)) (G : α → Prop) (o : Option α) : Prop :=
  ∀ b, ∃ z b', f (cB b) = some (z, cB b') ∧ G z ∧ ((o = some z ∧ b' = b) ∨ (o = none ∧ b' = true))
theorem SP.bind {α β : Type} {f : Tl2C → Option (α × Tl2C)} {G : α → Prop} {o : Option α} (hf : SP f G o) {h : α → Tl2C → Option (β × Tl2C)} {G' : β → Prop} {o' : α → Option β}
    (hh : ∀ z, G z → SP (h z) G' (o' z)) : SP (fun c => (f c).bind fun p => h p.1 p.2) G' (o.bind o') := fun b => by
  obtain ⟨z, b', h1, h2, h3⟩ := hf b
  obtain ⟨z', b'', h4, h5, h6⟩ := hh z h2 b'
  refine ⟨z', b'', by simp only [h1, Option.bind_some]; exact h4, h5, ?_⟩
  rcases h3 with ⟨rfl, rfl⟩ | ⟨rfl, rfl⟩
  · simpa using h6
  · rcases h6 with ⟨_, h6⟩ | ⟨_, h6⟩
    · exact .inr ⟨rfl, h6⟩
    · exact .inr ⟨rfl, h6⟩
theorem SP.pure {α : Type} {G : α → Prop} {z : α} (h : G z) : SP (fun c => some (z, c)) G (some z) := fun b => ⟨z, b, rfl, h, .inl ⟨rfl, rfl⟩⟩
theorem SP.map {α β : Type} {f : Tl2C → Option (α × Tl2C)} {G : α → Prop} {o : Option α} (hf : SP f G o) {g : α → β} {G' : β → Prop} (hg : ∀ z, G z → G' (g z)) : SP (fun c => (f c).bind fun p => some (g p.1, p.2)) G' (o.map g) := by
  have := hf.bind (h := fun z c => some (g z, c)) (o' := fun z => some (g z)) (fun z hz => SP.pure (hg z hz))
  rwa [Option.map_eq_bind]
/-- What the specification holds (z, and its flag b') beside the number o (or none): the flag before is b; once it is set, it stays. -/
def SR {α : Type} (G : α → Prop) (o : Option α) (b : Bool) (z : α) (b' : Bool) : Prop := G z ∧ (b = true → b' = true) ∧ (b = false → (o = some z ∧ b' = false) ∨ (o = none ∧ b' = true))
theorem SR.bind {α β : Type} {G : α → Prop} {G' : β → Prop} {o : Option α} {o' : α → Option β} {b b' b'' : Bool} {z : α} {z' : β} (h1 : SR G o b z b') (h2 : SR G' (o' z) b' z' b'') : SR G' (o.bind o') b z' b'' := by
  refine ⟨h2.1, fun h => h2.2.1 (h1.2.1 h), fun h => ?_⟩
  rcases h1.2.2 h with ⟨rfl, rfl⟩ | ⟨rfl, rfl⟩
  · exact h2.2.2 rfl
  · exact .inr ⟨rfl, h2.2.1 rfl⟩
theorem SR.mono {α : Type} {G G' : α → Prop} {o : Option α} {b b' : Bool} {z : α} (h : SR G o b z b') (hg : G z → G' z) : SR G' o b z b' := ⟨hg h.1, h.2⟩
theorem SR.map {α β : Type} {G : α → Prop} {G' : β → Prop} {o : Option α} {b b' : Bool} {z : α} (h : SR G o b z b') (g : α → β) (hg : G z → G' (g z)) : SR G' (o.map g) b (g z) b' := by
  refine ⟨hg h.1, h.2.1, fun hb => ?_⟩
  rcases h.2.2 hb with ⟨rfl, h2⟩ | ⟨rfl, h2⟩
  · exact .inl ⟨rfl, h2⟩
  · exact .inr ⟨rfl, h2⟩
def rIt : Nat → TRing → TRing
  | 0, x => x
  | k + 1, x => rIt k (rRoot x)
def vOf (x : TDyadic) : TRing := rIt (60 - x.Exp).toNat x.Num
/-- What a sum is, taken by eight. -/
def m8 (x : Int) : Int := Int.tmod (IntKind.i64.wrap ((Int.tmod x 8) + 8)) 8
theorem m8_eq {x : Int} (h : -1000000 ≤ x ∧ x ≤ 1000000) : m8 x = x % 8 := by
  unfold m8
  by_cases h0 : 0 ≤ x
  · rw [Int.tmod_eq_emod_of_nonneg h0, wrap_i64 ⟨by omega, by omega⟩, Int.tmod_eq_emod_of_nonneg (by omega)]
    omega
  · obtain ⟨y, rfl⟩ : ∃ y, x = -y := ⟨-x, by omega⟩
    rw [Int.neg_tmod, Int.tmod_eq_emod_of_nonneg (show 0 ≤ y by omega), wrap_i64 ⟨by omega, by omega⟩, Int.tmod_eq_emod_of_nonneg (by omega)]
    omega
/-- The two tables of sums say the same: B as it runs, S taken by eight, with a bound. -/
def Same (N : Nat) (z : Int) (B S : List Int) : Prop :=
  B.length = N ∧ S.length = 32 ∧ N ≤ 32 ∧ (∀ (j : Nat) (x : Int), B[j]? = some x → -z ≤ x ∧ x ≤ z ∧ S[j]? = some (x % 8)) ∧ ∀ j, N ≤ j → j < 32 → S[j]? = some 0
theorem Same.mono {N : Nat} {z z' : Int} {B S : List Int} (h : Same N z B S) (hz : z ≤ z') : Same N z' B S :=
  ⟨h.1, h.2.1, h.2.2.1, fun j x hx => ⟨by have := (h.2.2.2.1 j x hx).1; omega, Int.le_trans (h.2.2.2.1 j x hx).2.1 hz, (h.2.2.2.1 j x hx).2.2⟩, h.2.2.2.2⟩
theorem Same.add {N : Nat} {z : Int} {B S : List Int} (h : Same N z B S) (hz : z ≤ 100000) {i d : Int} (h0 : 0 ≤ i) (h1 : i < N) (hd : -28 ≤ d ∧ d ≤ 28) :
    ∃ x, getI B i = some x ∧ F_impl_coefficients_add S i d = some (S.set i.toNat ((x + d) % 8)) ∧ IntKind.i64.wrap (x + d) = x + d ∧ Same N (z + 28) (B.set i.toNat (IntKind.i64.wrap (x + d))) (S.set i.toNat ((x + d) % 8)) := by
  obtain ⟨hB, hS, hN, hj, ho⟩ := h
  obtain ⟨x, hx, hx'⟩ := getI_at h0 (show i < B.length by omega)
  obtain ⟨x0, xz, xs⟩ := hj _ _ hx'
  have hw : IntKind.i64.wrap (x + d) = x + d := wrap_i64 ⟨by omega, by omega⟩
  have hs : getI S i = some (x % 8) := by unfold getI; rw [if_pos h0, xs]
  refine ⟨x, hx, ?_, hw, by simpa using hB, by simpa using hS, hN, ?_, ?_⟩
  · unfold F_impl_coefficients_add
    rw [hs]
    simp only [Option.bind_some]
    rw [wrap_i64 (a := x % 8 + d) ⟨by omega, by omega⟩]
    have := m8_eq (x := x % 8 + d) ⟨by omega, by omega⟩
    unfold m8 at this
    rw [this, show (x % 8 + d) % 8 = (x + d) % 8 by omega]
  · intro j y hy
    rw [List.getElem?_set] at hy ⊢
    by_cases e : i.toNat = j
    · subst e
      rw [if_pos rfl] at hy ⊢
      rw [if_pos (by omega)] at hy ⊢
      cases hy
      rw [hw]
      exact ⟨by omega, by omega, rfl⟩
    · rw [if_neg e] at hy ⊢
      have := hj j y hy
      exact ⟨by omega, by omega, this.2.2⟩
  · intro j hj1 hj2
    rw [List.getElem?_set, if_neg (by omega)]
    exact ho j hj1 hj2
/-- The two lists of terms. -/
theorem terms_eq {N : Nat} {z : Int} {B S : List Int} (h : Same N z B S) (hz : z ≤ 100000) : ∃ l, F_spec_l13List B = some l ∧ F_impl_coefficients_terms S = some l ∧ l.length ≤ 32 := by
  obtain ⟨hB, hS, hN, hj, ho⟩ := h
  unfold F_spec_l13List F_impl_coefficients_terms
  rw [chk_t (by omega)]
  have step : ∀ (i : Nat) (x : Int) (out : List TTerm), out.length ≤ i → i < 32 → S[i]? = some (x % 8) → ∃ out', F_impl_coefficients_terms_l1 S i out = some out' ∧ out'.length ≤ i + 1 ∧
      out' = (bif decide (0 < (i : Int)) && decide (0 < x % 8) then out ++ [TTerm.mk (i : Int) (x % 8)] else out) := fun i x out hl hi hx => by
    unfold F_impl_coefficients_terms_l1
    simp only [getI_nat, hx, Option.bind_some]
    cases decide (0 < (i : Int)) && decide (0 < x % 8)
    · exact ⟨out, rfl, by omega, rfl⟩
    · simp only [cond_true]
      rw [chk_t (by omega)]
      exact ⟨_, rfl, by simp; omega, rfl⟩
  obtain ⟨l, l', h1, h2, h3, h4⟩ := forN2_inv (f := F_spec_l13List_l1 B) (g := F_impl_coefficients_terms_l1 S) (fun i s t => s = t ∧ s.length ≤ i) N 0 [] [] ⟨rfl, Nat.le_refl _⟩ (fun i s t _ hi ⟨hst, hl⟩ => by
    subst hst
    have hi : i < N := by omega
    have hx := List.getElem?_eq_getElem (show i < B.length by omega)
    obtain ⟨x0, xz, xs⟩ := hj _ _ hx
    obtain ⟨out', e1, e2, e3⟩ := step i _ s hl (by omega) xs
    refine ⟨out', out', ?_, e1, rfl, e2⟩
    unfold F_spec_l13List_l1
    simp only [getI_nat, hx, Option.bind_some]
    have := m8_eq (x := B[i]) ⟨by omega, by omega⟩
    unfold m8 at this
    rw [this, e3]
    cases decide (0 < (i : Int)) && decide (0 < B[i] % 8)
    · rfl
    · simp only [cond_true]
      rw [chk_t (by omega)]
      rfl)
  rw [← h3] at h2
  obtain ⟨l'', h5, h6⟩ := forN_inv (f := F_impl_coefficients_terms_l1 S) (fun i s => s = l) (32 - N) N l rfl (fun i s hi1 hi2 hs => by
    subst hs
    refine ⟨s, ?_, rfl⟩
    unfold F_impl_coefficients_terms_l1
    have := ho i hi1 (by omega)
    simp only [getI_nat, this, Option.bind_some]
    simp)
  rw [h6] at h5
  have h7 : forN (F_impl_coefficients_terms_l1 S) 32 0 [] = some l := by
    have : ∀ (k i : Nat) (s r : List TTerm), forN (F_impl_coefficients_terms_l1 S) k i s = some r → forN (F_impl_coefficients_terms_l1 S) (k + (32 - N)) i s = forN (F_impl_coefficients_terms_l1 S) (32 - N) (i + k) r := by
      intro k
      induction k with
      | zero => intro i s r h; cases h; simp
      | succ k ih =>
        intro i s r h
        obtain ⟨s', a1, a2⟩ := forN_go h
        rw [show k + 1 + (32 - N) = k + (32 - N) + 1 by omega]
        show (F_impl_coefficients_terms_l1 S i s).bind _ = _
        rw [a1]
        simp only [Option.bind_some]
        rw [ih _ _ _ a2, show i + 1 + k = i + (k + 1) by omega]
    have := this N 0 [] l h2
    rw [show N + (32 - N) = 32 by omega] at this
    rw [this, Nat.zero_add, h5]
  rw [hB, h1, h7]
  exact ⟨l, rfl, rfl, by omega⟩

/-- The exclusive or of two small numbers. -/
theorem xor_nat {a b : Nat} (ha : a < 32) (hb : b < 32) : bits .xor .i64 (a : Int) (b : Int) = ((a ^^^ b : Nat) : Int) := by
  have h1 : a ^^^ b < 2 ^ 5 := Nat.xor_lt_two_pow ha hb
  show IntKind.i64.wrap ((BitVec.ofInt 64 (a : Int) ^^^ BitVec.ofInt 64 (b : Int)).toNat : Int) = _
  have e1 : BitVec.ofInt 64 (a : Int) = BitVec.ofNat 64 a := rfl
  have e2 : BitVec.ofInt 64 (b : Int) = BitVec.ofNat 64 b := rfl
  rw [e1, e2, BitVec.toNat_xor, BitVec.toNat_ofNat, BitVec.toNat_ofNat, Nat.mod_eq_of_lt (by omega), Nat.mod_eq_of_lt (by omega)]
  exact wrap_i64 ⟨by omega, by omega⟩
/-- The rows of a map over n wires, each a number below N. -/
def RowsOk (n N : Nat) (R : List Int) : Prop := R.length = n ∧ ∀ x ∈ R, 0 ≤ x ∧ x < N
theorem RowsOk.set {n N : Nat} {R : List Int} (h : RowsOk n N R) (i : Nat) {x : Nat} (hx : x < N) : RowsOk n N (R.set i (x : Int)) :=
  ⟨by rw [List.length_set]; exact h.1, fun y hy => by
    rcases List.mem_or_eq_of_mem_set hy with hy | rfl
    · exact h.2 y hy
    · omega⟩
theorem cx_eq {R : List Int} {a b : Int} {x y : Int} (hl : R.length ≤ 32) (hb : getI R b = some x) (ha : getI R a = some y) : F_spec_l12CX (TLinear.mk R) a b = some (TLinear.mk (R.set b.toNat (bits .xor .i64 x y))) := by
  unfold F_spec_l12CX F_spec_l1Own
  rw [chk_t (show 0 + R.length ≤ 1099511627776 by omega)]
  simp only [Option.bind_some, hb, ha]
theorem fuelB {n : Nat} (h : n < 18446744073709551616) : n < fuel := h
def Sp : List Nat → Nat → Prop
  | [], v => v = 0
  | x :: t, v => Sp t v ∨ Sp t (v ^^^ x)
theorem xx (a b : Nat) : a ^^^ b ^^^ b = a := by rw [Nat.xor_assoc, Nat.xor_self, Nat.xor_zero]
theorem xr (a b c : Nat) : a ^^^ b ^^^ c = a ^^^ c ^^^ b := by rw [Nat.xor_assoc, Nat.xor_comm b c, ← Nat.xor_assoc]
theorem sp_zero : ∀ L, Sp L 0
  | [] => rfl
  | _ :: t => .inl (sp_zero t)
theorem sp_close : ∀ {L : List Nat} {y v : Nat}, y ∈ L → Sp L v → Sp L (v ^^^ y)
  | z :: t, y, v, hy, hv => by
    rcases List.mem_cons.1 hy with rfl | hy
    · rcases hv with h | h
      · exact .inr (by rw [xx]; exact h)
      · exact .inl h
    · rcases hv with h | h
      · exact .inl (sp_close hy h)
      · exact .inr (by rw [xr]; exact sp_close hy h)
theorem sp_sub : ∀ {L L' : List Nat}, (∀ y ∈ L, y ∈ L') → ∀ {v : Nat}, Sp L v → Sp L' v
  | [], L', _, v, h => by
    have : v = 0 := h
    rw [this]; exact sp_zero L'
  | y :: t, L', hs, v, h => by
    rcases h with h | h
    · exact sp_sub (fun z hz => hs z (List.mem_cons_of_mem _ hz)) h
    · have := sp_close (hs y (List.mem_cons_self ..)) (sp_sub (fun z hz => hs z (List.mem_cons_of_mem _ hz)) h)
      rwa [xx] at this
def red (b x y : Nat) : Nat := if y.testBit b then y ^^^ x else y
theorem red_bit {b x : Nat} (hx : x.testBit b = true) (y : Nat) : (red b x y).testBit b = false := by
  unfold red
  cases h : y.testBit b with
  | true => simp [Nat.testBit_xor, h, hx]
  | false => simp [h]
theorem sp_r1 {b x : Nat} (hx : x.testBit b = true) : ∀ {L : List Nat} {v : Nat}, Sp (L.map (red b x)) v → v.testBit b = false
  | [], v, h => by
    have : v = 0 := h
    rw [this, Nat.zero_testBit]
  | y :: t, v, h => by
    rcases h with h | h
    · exact sp_r1 hx h
    · have h1 := sp_r1 hx h
      rw [Nat.testBit_xor, red_bit hx y] at h1
      simpa using h1
theorem sp_r2 {b x : Nat} : ∀ {L : List Nat} {v : Nat}, Sp (L.map (red b x)) v → Sp L v ∨ Sp L (v ^^^ x)
  | [], v, h => .inl h
  | y :: t, v, h => by
    rcases h with h | h
    · rcases sp_r2 h with h | h
      · exact .inl (.inl h)
      · exact .inr (.inl h)
    · unfold red at h
      split at h
      · rcases sp_r2 h with h | h
        · exact .inr (.inr (by rw [← Nat.xor_assoc, xr] at h; exact h))
        · exact .inl (.inr (by rw [← Nat.xor_assoc, xx] at h; exact h))
      · rcases sp_r2 h with h | h
        · exact .inl (.inr h)
        · exact .inr (.inr (by rw [xr]; exact h))
theorem sp_r3 {b x : Nat} : ∀ {L : List Nat} {v : Nat}, Sp L v → Sp (L.map (red b x)) v ∨ Sp (L.map (red b x)) (v ^^^ x)
  | [], v, h => .inl h
  | y :: t, v, h => by
    have key : ∀ u, (Sp (t.map (red b x)) (u ^^^ red b x y) → Sp ((y :: t).map (red b x)) u) := fun u hu => .inr hu
    rcases h with h | h
    · rcases sp_r3 (b := b) (x := x) h with h | h
      · exact .inl (.inl h)
      · exact .inr (.inl h)
    · rcases sp_r3 (b := b) (x := x) h with h | h
      · by_cases hb : y.testBit b = true
        · refine .inr (key _ ?_)
          unfold red; rw [if_pos hb, ← Nat.xor_assoc, xr (v ^^^ x), xx]; exact h
        · refine .inl (key _ ?_)
          unfold red; rw [if_neg hb]; exact h
      · by_cases hb : y.testBit b = true
        · refine .inl (key _ ?_)
          unfold red; rw [if_pos hb, ← Nat.xor_assoc]; exact h
        · refine .inr (key _ ?_)
          unfold red; rw [if_neg hb, xr]; exact h
theorem sp_red {b x : Nat} (hx : x.testBit b = true) {L : List Nat} {v : Nat} : Sp (L.map (red b x)) v ↔ Sp (x :: L) v ∧ v.testBit b = false := by
  constructor
  · intro h; exact ⟨sp_r2 h, sp_r1 hx h⟩
  · rintro ⟨h, hv⟩
    have no : ∀ {u : Nat}, u.testBit b = false → ¬ Sp (L.map (red b x)) (u ^^^ x) := fun hu h => by
      have := sp_r1 hx h
      rw [Nat.testBit_xor, hu, hx] at this
      simp at this
    rcases h with h | h
    · rcases sp_r3 (b := b) (x := x) h with h | h
      · exact h
      · exact absurd h (no hv)
    · rcases sp_r3 (b := b) (x := x) h with h | h
      · exact absurd h (no hv)
      · rw [xx] at h; exact h
theorem sp_none {b : Nat} : ∀ {L : List Nat} {v : Nat}, (∀ y ∈ L, y.testBit b = false) → Sp L v → v.testBit b = false
  | [], v, _, h => by
    have : v = 0 := h
    rw [this, Nat.zero_testBit]
  | y :: t, v, hn, h => by
    have hy := hn y (List.mem_cons_self ..)
    have ht : ∀ z ∈ t, z.testBit b = false := fun z hz => hn z (List.mem_cons_of_mem _ hz)
    rcases h with h | h
    · exact sp_none ht h
    · have := sp_none ht h
      rw [Nat.testBit_xor, hy] at this
      simpa using this
theorem sp_mem {L : List Nat} {y : Nat} (h : y ∈ L) : Sp L y := by
  have := sp_close h (sp_zero L)
  rwa [Nat.zero_xor] at this
/-- Small numbers as words. -/
def cI (l : List Nat) : List Int := l.map fun (x : Nat) => (x : Int)
theorem cI_len (l : List Nat) : (cI l).length = l.length := by simp [cI]
theorem cI_get {l : List Nat} {i x : Nat} (h : l[i]? = some x) : getI (cI l) (i : Int) = some (x : Int) := by
  rw [getI_nat]; simp [cI, h]
theorem cI_set (l : List Nat) (i x : Nat) : (cI l).set i (x : Int) = cI (l.set i x) := by simp [cI]
def sm5 (l : List Nat) : Prop := ∀ x ∈ l, x < 32
theorem xor32 {a b : Nat} (ha : a < 32) (hb : b < 32) : a ^^^ b < 32 := by
  have : a ^^^ b < 2 ^ 5 := Nat.xor_lt_two_pow ha hb
  omega
theorem tb_small : ∀ (x : Fin 32) (b : Fin 10), ((bits .and .i64 (shrK .i64 (x.val : Int) (b.val : Int)) 1) == 1) = x.val.testBit b.val := by decide +kernel
theorem tb {x b : Nat} (hx : x < 32) (hb : b < 10) : ((bits .and .i64 (shrK .i64 (x : Int) (b : Int)) 1) == 1) = x.testBit b := tb_small ⟨x, hx⟩ ⟨b, hb⟩
theorem wru' {a : Nat} (h : a < 1000) : IntKind.u64.wrap (a : Int) = (a : Int) := by
  simp [IntKind.wrap, IntKind.signed, IntKind.bits]
  omega
theorem red32 {b x y : Nat} (hx : x < 32) (hy : y < 32) : red b x y < 32 := by
  unfold red
  split
  · exact xor32 hy hx
  · exact hy
/-- The specification looks for a row. -/
theorem rank_find {r1 : List Int} {l : List Nat} {b : Nat} (hl : l.length = r1.length) (hs : sm5 l) (hn : l.length ≤ 64) (hb : b < 10) :
    ∀ (q m i : Nat), i + m = l.length → m < q → ∃ (a : Int) (i' : Int), whX (F_spec_l12Rank_l2 r1 (cI l) b) q (-1, (i : Int)) = some (.inl (a, i')) ∧
      ((a = -1 ∧ ∀ j y, i ≤ j → l[j]? = some y → y.testBit b = false) ∨ ∃ (j y : Nat), a = (j : Int) ∧ i ≤ j ∧ l[j]? = some y ∧ y.testBit b = true)
  | 0, _, _, _, h => absurd h (Nat.not_lt_zero _)
  | q + 1, 0, i, hm, _ => by
    refine ⟨-1, i, ?_, .inl ⟨rfl, fun j y hj hy => ?_⟩⟩
    · simp only [whX]
      unfold F_spec_l12Rank_l2
      simp only
      rw [decide_eq_false (show ¬ (i : Int) < (r1.length : Int) by omega)]
      rfl
    · have := (List.getElem?_eq_some_iff.1 hy).1; omega
  | q + 1, m + 1, i, hm, hq => by
    have hi : i < l.length := by omega
    have hx := List.getElem?_eq_getElem hi
    have hx32 := hs l[i] (List.getElem_mem hi)
    have hstep : F_spec_l12Rank_l2 r1 (cI l) b (-1, (i : Int)) = some (bif l[i].testBit b then .br ((i : Int), (i : Int)) else .nx (-1, ((i + 1 : Nat) : Int))) := by
      unfold F_spec_l12Rank_l2
      simp only
      rw [decide_eq_true (show (i : Int) < (r1.length : Int) by omega), cI_get hx]
      simp only [cond_true, Option.bind_some]
      rw [wru' (by omega), chk_t (by omega), tb hx32 hb, wrap_i64 (a := (i : Int) + 1) ⟨by omega, by omega⟩]
      cases l[i].testBit b <;> rfl
    cases hb' : l[i].testBit b with
    | true =>
      rw [hb'] at hstep
      exact ⟨i, i, by simp only [whX, hstep, cond_true, Option.bind_some], .inr ⟨i, l[i], rfl, Nat.le_refl _, hx, hb'⟩⟩
    | false =>
      rw [hb'] at hstep
      obtain ⟨a, i', h1, h2⟩ := rank_find hl hs hn hb q m (i + 1) (by omega) (by omega)
      refine ⟨a, i', by simp only [whX, hstep, cond_false, Option.bind_some]; exact h1, ?_⟩
      rcases h2 with ⟨h2, h3⟩ | ⟨j, y, h2, h3, h4, h5⟩
      · refine .inl ⟨h2, fun j y hj hy => ?_⟩
        by_cases hji : j = i
        · subst hji; rw [hx] at hy; cases hy; exact hb'
        · exact h3 j y (by omega) hy
      · exact .inr ⟨j, y, h2, by omega, h4, h5⟩
theorem rank_elim {l : List Nat} {r b x : Nat} (hs : sm5 l) (hx : x < 32) (hb : b < 10) :
    ∃ l2 : List Nat, forN (F_spec_l12Rank_l3 (r : Int) b (x : Int)) l.length 0 (cI l) = some (cI l2) ∧ l2.length = l.length ∧ sm5 l2 ∧ l2.drop (r + 1) = (l.drop (r + 1)).map (red b x) := by
  obtain ⟨s, h1, l2, rfl, h2, h3⟩ := forN_inv (f := F_spec_l12Rank_l3 (r : Int) b (x : Int)) (fun i s => ∃ l2 : List Nat, s = cI l2 ∧ l2.length = l.length ∧ ∀ j y, l[j]? = some y → l2[j]? = some (if j < i ∧ j ≠ r then red b x y else y)) l.length 0 (cI l)
    ⟨l, rfl, rfl, fun j y hy => by rw [if_neg (by omega)]; exact hy⟩ (fun i s _ hi ⟨l2, hs2, h2, h3⟩ => by
      subst hs2
      have hi : i < l.length := by omega
      have hy := List.getElem?_eq_getElem hi
      have h2i := h3 i _ hy
      rw [if_neg (by omega)] at h2i
      have hy32 := hs l[i] (List.getElem_mem hi)
      unfold F_spec_l12Rank_l3
      by_cases hir : i = r
      · subst hir
        have e : ((i : Int) != (i : Int)) = false := by simp
        rw [e]
        simp only [gb, cond_false, Option.bind_some, Bool.false_and]
        rw [chk_t (fun h => by cases h)]
        refine ⟨cI l2, rfl, l2, rfl, h2, fun j y hjy => ?_⟩
        rw [h3 j y hjy]
        by_cases hji : j = i
        · rw [if_neg (by omega), if_neg (by omega)]
        · by_cases hlt : j < i
          · rw [if_pos (by omega), if_pos (by omega)]
          · rw [if_neg (by omega), if_neg (by omega)]
      · have e : ((i : Int) != (r : Int)) = true := by simp; omega
        rw [e]
        simp only [gb, cond_true, Bool.true_and]
        rw [cI_get h2i]
        simp only [Option.bind_some]
        rw [wru' (by omega), chk_t (fun _ => by omega), tb hy32 hb]
        cases hbit : l[i].testBit b with
        | false =>
          refine ⟨cI l2, rfl, l2, rfl, h2, fun j y hjy => ?_⟩
          rw [h3 j y hjy]
          by_cases hji : j = i
          · subst hji
            rw [hy] at hjy; cases hjy
            rw [if_neg (by omega), if_pos (by omega)]
            unfold red; rw [hbit]; simp
          · by_cases hlt : j < i ∧ j ≠ r
            · rw [if_pos hlt, if_pos (by omega)]
            · rw [if_neg hlt, if_neg (by omega)]
        | true =>
          simp only [cond_true, Option.bind_some, Int.toNat_natCast]
          rw [xor_nat hy32 hx, cI_set]
          refine ⟨_, rfl, _, rfl, by simpa using h2, fun j y hjy => ?_⟩
          rw [List.getElem?_set]
          by_cases hji : i = j
          · subst hji
            rw [hy] at hjy; cases hjy
            rw [if_pos rfl, if_pos (by omega), if_pos (by omega)]
            unfold red; rw [hbit]; rfl
          · rw [if_neg hji, h3 j y hjy]
            by_cases hlt : j < i ∧ j ≠ r
            · rw [if_pos hlt, if_pos (by omega)]
            · rw [if_neg hlt, if_neg (by omega)])
  rw [Nat.zero_add] at h3
  refine ⟨l2, h1, h2, fun y hy => ?_, ?_⟩
  · obtain ⟨j, hj⟩ := List.mem_iff_getElem?.1 hy
    have hjl : j < l.length := by rw [← h2]; exact (List.getElem?_eq_some_iff.1 hj).1
    have := h3 j _ (List.getElem?_eq_getElem hjl)
    rw [hj] at this
    cases this
    have h32 := hs l[j] (List.getElem_mem hjl)
    split
    · exact red32 hx h32
    · exact h32
  · apply List.ext_getElem?
    intro j
    rw [List.getElem?_drop, List.getElem?_map, List.getElem?_drop]
    by_cases hj : r + 1 + j < l.length
    · have hy := List.getElem?_eq_getElem hj
      rw [h3 _ _ hy, hy, if_pos (by omega)]; rfl
    · rw [List.getElem?_eq_none (by omega), List.getElem?_eq_none (by omega)]; rfl
theorem rank_elim2 {l : List Nat} {b x : Nat} (hs : sm5 l) (hx : x < 32) (hb : b < 10) : forN (F_impl_rankOf_l2 b (x : Int)) l.length 0 (cI l) = some (cI (l.map (red b x))) := by
  obtain ⟨s, h1, l2, rfl, h2, h3⟩ := forN_inv (f := F_impl_rankOf_l2 b (x : Int)) (fun i s => ∃ l2 : List Nat, s = cI l2 ∧ l2.length = l.length ∧ ∀ j y, l[j]? = some y → l2[j]? = some (if j < i then red b x y else y)) l.length 0 (cI l)
    ⟨l, rfl, rfl, fun j y hy => by rw [if_neg (by omega)]; exact hy⟩ (fun i s _ hi ⟨l2, hs2, h2, h3⟩ => by
      subst hs2
      have hi : i < l.length := by omega
      have hy := List.getElem?_eq_getElem hi
      have h2i := h3 i _ hy
      rw [if_neg (by omega)] at h2i
      have hy32 := hs l[i] (List.getElem_mem hi)
      unfold F_impl_rankOf_l2
      rw [cI_get h2i]
      simp only [Option.bind_some]
      rw [chk_t (by omega), tb hy32 hb]
      cases hbit : l[i].testBit b with
      | false =>
        refine ⟨cI l2, rfl, l2, rfl, h2, fun j y hjy => ?_⟩
        rw [h3 j y hjy]
        by_cases hji : j = i
        · subst hji
          rw [hy] at hjy; cases hjy
          rw [if_neg (by omega), if_pos (by omega)]
          unfold red; rw [hbit]; simp
        · by_cases hlt : j < i
          · rw [if_pos hlt, if_pos (by omega)]
          · rw [if_neg hlt, if_neg (by omega)]
      | true =>
        simp only [cond_true, Option.bind_some, Int.toNat_natCast]
        rw [xor_nat hy32 hx, cI_set]
        refine ⟨_, rfl, _, rfl, by simpa using h2, fun j y hjy => ?_⟩
        rw [List.getElem?_set]
        by_cases hji : i = j
        · subst hji
          rw [hy] at hjy; cases hjy
          rw [if_pos rfl, if_pos (by omega), if_pos (by omega)]
          unfold red; rw [hbit]; rfl
        · rw [if_neg hji, h3 j y hjy]
          by_cases hlt : j < i
          · rw [if_pos hlt, if_pos (by omega)]
          · rw [if_neg hlt, if_neg (by omega)])
  rw [h1]
  congr 2
  apply List.ext_getElem?
  intro j
  rw [List.getElem?_map]
  by_cases hj : j < l.length
  · have hy := List.getElem?_eq_getElem hj
    rw [h3 _ _ hy, hy, if_pos (by omega)]; rfl
  · rw [List.getElem?_eq_none (by omega), List.getElem?_eq_none (by omega)]; rfl
theorem idx_find {l : List Nat} {b : Nat} (hs : sm5 l) (hn : l.length ≤ 64) (hb : b < 10) :
    ∃ a : Int, F_slices_IndexFunc_int_int (cI l) (fun x_0 => F_impl_rankOf_1 x_0 (b : Int)) = some a ∧ ((a = -1 ∧ ∀ y ∈ l, y.testBit b = false) ∨ ∃ j y : Nat, a = (j : Int) ∧ l[j]? = some y ∧ y.testBit b = true) := by
  unfold F_slices_IndexFunc_int_int
  rw [chk_t (by rw [cI_len]; omega)]
  rcases forX_inv (f := F_slices_IndexFunc_int_int_l1 (cI l) (fun x_0 => F_impl_rankOf_1 x_0 (b : Int))) (fun i _ => ∀ j y, j < i → l[j]? = some y → y.testBit b = false) (fun r => ∃ j y : Nat, r = (j : Int) ∧ l[j]? = some y ∧ y.testBit b = true) (cI l).length 0 () (fun j y hj => absurd hj (Nat.not_lt_zero _)) (fun i s _ hi hI => by
    rw [cI_len] at hi
    have hi : i < l.length := by omega
    have hy := List.getElem?_eq_getElem hi
    have hy32 := hs l[i] (List.getElem_mem hi)
    unfold F_slices_IndexFunc_int_int_l1 F_impl_rankOf_1
    rw [cI_get hy]
    simp only [Option.bind_some]
    rw [chk_t (by omega), tb hy32 hb]
    simp only [Option.bind_some]
    cases hbit : l[i].testBit b with
    | true => exact .inr ⟨_, rfl, i, l[i], rfl, hy, hbit⟩
    | false =>
      refine .inl ⟨(), rfl, fun j y hj hjy => ?_⟩
      by_cases hji : j = i
      · subst hji; rw [hy] at hjy; cases hjy; exact hbit
      · exact hI j y (by omega) hjy) with ⟨⟨⟩, h1, h2⟩ | ⟨r, h1, j, y, rfl, h3, h4⟩
  · rw [h1]
    refine ⟨-1, rfl, .inl ⟨rfl, fun y hy => ?_⟩⟩
    obtain ⟨j, hj⟩ := List.mem_iff_getElem?.1 hy
    exact h2 j y (by rw [cI_len, Nat.zero_add]; exact (List.getElem?_eq_some_iff.1 hj).1) hj
  · rw [h1]; exact ⟨_, rfl, .inr ⟨j, y, rfl, h3, h4⟩⟩
/-- The two ranks run beside each other. -/
def RankS (n : Nat) (s t : List Int × Int) : Prop := ∃ (l m : List Nat) (r : Nat), s = (cI l, (r : Int)) ∧ t = (cI m, (r : Int)) ∧ l.length = n ∧ r ≤ n ∧ m.length ≤ n ∧ sm5 l ∧ sm5 m ∧ ∀ v, Sp (l.drop r) v ↔ Sp m v
theorem rank_round {n b : Nat} (hn : n ≤ 5) (hb : b < 10) {r1 : List Int} (hr1 : r1.length = n) {s t : List Int × Int} (h : RankS n s t) :
    ∃ s' t', F_spec_l12Rank_l1 r1 b s = some s' ∧ F_impl_rankOf_l1 b t = some t' ∧ RankS n s' t' := by
  obtain ⟨l, m, r, rfl, rfl, hl, hr, hm, sl, smm, hSp⟩ := h
  obtain ⟨a, i', f1, f2⟩ := rank_find (r1 := r1) (l := l) (b := b) (by omega) sl (by omega) hb fuel (l.length - r) r (by omega) (fuelB (by omega))
  obtain ⟨a', g1, g2⟩ := idx_find (l := m) (b := b) smm (by omega) hb
  unfold F_spec_l12Rank_l1 F_impl_rankOf_l1
  simp only
  rw [f1, g1]
  simp only [Option.bind_some, orR]
  have hmemd : ∀ y, y ∈ l.drop r ↔ ∃ j, r ≤ j ∧ l[j]? = some y := fun y => by
    rw [List.mem_iff_getElem?]
    constructor
    · rintro ⟨j, hj⟩; rw [List.getElem?_drop] at hj; exact ⟨r + j, by omega, hj⟩
    · rintro ⟨j, hj, h⟩; exact ⟨j - r, by rw [List.getElem?_drop, show r + (j - r) = j by omega]; exact h⟩
  rcases f2 with ⟨rfl, f2⟩ | ⟨p, x, rfl, hp, hpx, hxb⟩
  · -- none in the specification: none in the program
    have hnone : ∀ y ∈ m, y.testBit b = false := fun y hy => sp_none (L := l.drop r) (fun z hz => by obtain ⟨j, h1, h2⟩ := (hmemd z).1 hz; exact f2 j z h1 h2) ((hSp y).2 (sp_mem hy))
    rcases g2 with ⟨rfl, _⟩ | ⟨j, y, rfl, h1, h2⟩
    · exact ⟨_, _, rfl, rfl, l, m, r, rfl, rfl, hl, hr, hm, sl, smm, hSp⟩
    · rw [hnone y (List.mem_of_getElem? h1)] at h2; cases h2
  · rcases g2 with ⟨rfl, g2⟩ | ⟨p', x', rfl, hpx', hxb'⟩
    · have := sp_none g2 ((hSp x).1 (sp_mem ((hmemd x).2 ⟨p, hp, hpx⟩)))
      rw [this] at hxb; cases hxb
    · have hpl : p < l.length := (List.getElem?_eq_some_iff.1 hpx).1
      have hrl : r < l.length := by omega
      have hrx := List.getElem?_eq_getElem hrl
      have hx32 := sl x (List.mem_of_getElem? hpx)
      have hx32' := smm x' (List.mem_of_getElem? hpx')
      have hr32 := sl l[r] (List.getElem_mem hrl)
      have hpl' : p' < m.length := (List.getElem?_eq_some_iff.1 hpx').1
      rw [decide_eq_false (show ¬ (p : Int) < 0 by omega), decide_eq_false (show ¬ (p' : Int) < 0 by omega)]
      simp only [cond_false]
      rw [cI_get hpx, cI_get hrx, cI_get hpx']
      simp only [Option.bind_some, Int.toNat_natCast]
      rw [cI_set]
      have hr2 : ∃ z, (l.set p l[r])[r]? = some z := ⟨_, List.getElem?_eq_getElem (by simpa using hrl)⟩
      obtain ⟨z, hz⟩ := hr2
      rw [cI_get hz, cI_set]
      simp only [Option.bind_some]
      rw [chk_t (by omega)]
      -- the specification's rows
      generalize hl1 : (l.set p l[r]).set r x = l1
      have l1len : l1.length = l.length := by rw [← hl1]; simp
      have l1get : ∀ j, l1[j]? = if j = r then (if j < l.length then some x else none) else if j = p then (if j < l.length then some l[r] else none) else l[j]? := fun j => by
        rw [← hl1, List.getElem?_set, List.getElem?_set]
        by_cases h1 : r = j
        · subst h1; rw [if_pos rfl, if_pos rfl, List.length_set]
        · rw [if_neg h1, if_neg (Ne.symm h1)]
          by_cases h2 : p = j
          · subst h2; simp
          · rw [if_neg h2, if_neg (Ne.symm h2)]
      have sl1 : sm5 l1 := fun y hy => by
        obtain ⟨j, hj⟩ := List.mem_iff_getElem?.1 hy
        rw [l1get] at hj
        split at hj
        · split at hj
          · cases hj; exact hx32
          · cases hj
        · split at hj
          · split at hj
            · cases hj; exact hr32
            · cases hj
          · exact sl y (List.mem_of_getElem? hj)
      obtain ⟨l2, e1, e2, e3, e4⟩ := rank_elim (l := l1) (r := r) (b := b) (x := x) sl1 hx32 hb
      rw [show r1.length = l1.length by omega, e1]
      -- the program's rows
      have hdel : F_slices_Delete_int_int (cI m) (p' : Int) (IntKind.i64.wrap ((p' : Int) + 1)) = some (cI (m.take p' ++ m.drop (p' + 1))) := by
        unfold F_slices_Delete_int_int
        rw [wrap_i64 (a := (p' : Int) + 1) ⟨by omega, by omega⟩, chk_t (by rw [cI_len]; omega)]
        have e : ((p' : Int) == (p' : Int) + 1) = false := beq_eq_false_iff_ne.2 (by omega)
        rw [e]
        simp only [cond_false]
        rw [chk_t (by omega)]
        have e2 : ((p' : Int) + 1).toNat = p' + 1 := by omega
        rw [Int.toNat_natCast, e2]
        unfold cI
        rw [List.map_append, List.map_take, List.map_drop]
      rw [hdel]
      simp only [Option.bind_some]
      generalize hm1 : m.take p' ++ m.drop (p' + 1) = m1
      have hmx : m = m.take p' ++ x' :: m.drop (p' + 1) := by
        have := List.getElem?_eq_some_iff.1 hpx'
        obtain ⟨h1, h2⟩ := this
        rw [← h2, List.getElem_cons_drop, List.take_append_drop]
      have mmem : ∀ y, y ∈ x' :: m1 ↔ y ∈ m := fun y => by
        rw [← hm1]
        conv => rhs; rw [hmx]
        simp only [List.mem_cons, List.mem_append]
        constructor
        · rintro (h | h | h)
          · exact .inr (.inl h)
          · exact .inl h
          · exact .inr (.inr h)
        · rintro (h | h | h)
          · exact .inr (.inl h)
          · exact .inl h
          · exact .inr (.inr h)
      have sm1 : sm5 m1 := fun y hy => smm y ((mmem y).1 (List.mem_cons_of_mem _ hy))
      have m1len : m1.length + 1 = m.length := by
        have := congrArg List.length hmx
        rw [← hm1]
        simp at this ⊢
        omega
      rw [cI_len, chk_t (by omega), rank_elim2 sm1 hx32' hb]
      simp only [Option.bind_some]
      rw [wrap_i64 (a := (r : Int) + 1) ⟨by omega, by omega⟩]
      refine ⟨_, _, rfl, rfl, l2, m1.map (red b x'), r + 1, rfl, rfl, by omega, by omega, by simp; omega, e3, fun y hy => ?_, fun v => ?_⟩
      · obtain ⟨z, hz, rfl⟩ := List.mem_map.1 hy
        exact red32 hx32' (sm1 z hz)
      · rw [e4, sp_red hxb, sp_red hxb']
        have k1 : ∀ u, Sp (x :: l1.drop (r + 1)) u ↔ Sp (l.drop r) u := fun u => by
          constructor
          · refine sp_sub (fun y hy => ?_)
            rcases List.mem_cons.1 hy with rfl | hy
            · exact (hmemd y).2 ⟨p, hp, hpx⟩
            · obtain ⟨j, hj⟩ := List.mem_iff_getElem?.1 hy
              rw [List.getElem?_drop, l1get, if_neg (by omega)] at hj
              split at hj
              · split at hj
                · cases hj; exact (hmemd _).2 ⟨r, Nat.le_refl _, hrx⟩
                · cases hj
              · exact (hmemd y).2 ⟨r + 1 + j, by omega, hj⟩
          · refine sp_sub (fun y hy => ?_)
            obtain ⟨j, hj, hjy⟩ := (hmemd y).1 hy
            have hjl := (List.getElem?_eq_some_iff.1 hjy).1
            by_cases hjp : j = p
            · subst hjp; rw [hpx] at hjy; cases hjy; exact List.mem_cons_self ..
            · by_cases hjr : j = r
              · subst hjr
                rw [hrx] at hjy; cases hjy
                refine List.mem_cons_of_mem _ (List.mem_iff_getElem?.2 ⟨p - (j + 1), ?_⟩)
                rw [List.getElem?_drop, l1get, show j + 1 + (p - (j + 1)) = p by omega, if_neg (by omega), if_pos rfl, if_pos hpl]
              · refine List.mem_cons_of_mem _ (List.mem_iff_getElem?.2 ⟨j - (r + 1), ?_⟩)
                rw [List.getElem?_drop, l1get, show r + 1 + (j - (r + 1)) = j by omega, if_neg hjr, if_neg hjp]; exact hjy
        have k2 : ∀ u, Sp (x' :: m1) u ↔ Sp m u := fun u => ⟨sp_sub (fun y hy => (mmem y).1 hy), sp_sub (fun y hy => (mmem y).2 hy)⟩
        rw [k1, k2, hSp]
theorem rank_both {l : List Nat} (hn : l.length ≤ 5) (hs : sm5 l) : ∃ r : Int, F_spec_l12Rank (cI l) = some r ∧ F_impl_rankOf (cI l) = some r := by
  have h0 : RankS l.length (cI l, 0) (cI l, 0) := ⟨l, l, 0, rfl, rfl, rfl, by omega, by omega, hs, hs, fun v => by rw [List.drop_zero]⟩
  obtain ⟨s, t, h1, h2, h3⟩ := forN2_inv (f := F_spec_l12Rank_l1 (cI l)) (g := F_impl_rankOf_l1) (fun _ s t => RankS l.length s t) 10 0 _ _ h0 (fun b s t _ hb h => rank_round hn (by omega) (cI_len l) h)
  obtain ⟨l', m', r, rfl, rfl, _⟩ := h3
  refine ⟨r, ?_, ?_⟩
  · unfold F_spec_l12Rank F_spec_l1Own
    rw [chk_t (by rw [cI_len]; omega)]
    simp only [Option.bind_some]
    rw [h1]; rfl
  · unfold F_impl_rankOf F_slices_Clone_int_int
    rw [chk_t (by rw [cI_len]; omega)]
    simp only [Option.bind_some]
    rw [h2]; rfl

def setN (m : Nat) : List Nat := (List.range 5).filter fun k => m.testBit k
theorem set_small : ∀ m : Fin 32, F_spec_l1Set ((m.val : Nat) : Int) = some (cI (setN m.val)) := by decide +kernel
theorem set_eq {m : Nat} (h : m < 32) : F_spec_l1Set (m : Int) = some (cI (setN m)) := set_small ⟨m, h⟩
theorem setN_len (m : Nat) : (setN m).length ≤ 5 := Nat.le_trans (List.length_filter_le _ _) (by simp)
def thr (l : List Nat) (m : Nat) : Nat := (List.range 5).foldl (fun x k => if m.testBit k then x ^^^ l.getD k 0 else x) 0
theorem forN_fold {f : Nat → Int → Option Int} {g : Nat → Nat → Nat} (P : Nat → Prop) : ∀ (r : List Nat) (i x : Nat), P x →
    (∀ j y x, r[j]? = some y → P x → f (i + j) (x : Int) = some ((g x y : Nat) : Int) ∧ P (g x y)) → forN f r.length i (x : Int) = some ((r.foldl g x : Nat) : Int) ∧ P (r.foldl g x)
  | [], _, _, h, _ => ⟨rfl, h⟩
  | y :: t, i, x, h, hf => by
    obtain ⟨h1, h2⟩ := hf 0 y x rfl h
    obtain ⟨h3, h4⟩ := forN_fold P t (i + 1) (g x y) h2 (fun j z w hz hw => by
      have := hf (j + 1) z w hz hw
      rw [show i + 1 + j = i + (j + 1) by omega]; exact this)
    refine ⟨?_, h4⟩
    show (f i (x : Int)).bind _ = _
    rw [show i = i + 0 from rfl, h1]
    exact h3
theorem pow32 {n : Nat} (h : n ≤ 5) : 2 ^ n ≤ 32 := by
  have : 2 ^ n ≤ 2 ^ 5 := Nat.pow_le_pow_right (by decide) h
  omega
theorem getD_lt {l : List Nat} {n : Nat} (hs : ∀ x ∈ l, x < 2 ^ n) (k : Nat) : l.getD k 0 < 2 ^ n := by
  rw [List.getD_eq_getElem?_getD]
  cases h : l[k]? with
  | none => exact Nat.two_pow_pos n
  | some x => exact hs x (List.mem_of_getElem? h)
theorem tb_out {m n k : Nat} (hm : m < 2 ^ n) (hk : n ≤ k) : m.testBit k = false :=
  Nat.testBit_lt_two_pow (Nat.lt_of_lt_of_le hm (Nat.pow_le_pow_right (by decide) hk))
theorem through_loop {l : List Nat} {n m : Nat} (hl : l.length = n) (hn : n ≤ 5) (hs : ∀ x ∈ l, x < 2 ^ n) (hm : m < 2 ^ n) :
    forN (F_spec_l13Through_l1 (cI (setN m)) (TLinear.mk (cI l))) (cI (setN m)).length 0 0 = some ((thr l m : Nat) : Int) ∧ thr l m < 2 ^ n := by
  have h32 := pow32 hn
  obtain ⟨h1, h2⟩ := forN_fold (f := F_spec_l13Through_l1 (cI (setN m)) (TLinear.mk (cI l))) (g := fun x k => x ^^^ l.getD k 0) (fun x => x < 2 ^ n) (setN m) 0 0 (Nat.two_pow_pos n) (fun j y x hy hx => by
    have hmem := List.mem_of_getElem? hy
    have hbit : m.testBit y = true := (List.mem_filter.1 hmem).2
    have hyn : y < n := by
      rcases Nat.lt_or_ge y n with h | h
      · exact h
      · rw [tb_out hm h] at hbit; cases hbit
    have hg := List.getElem?_eq_getElem (show y < l.length by omega)
    have hgd : l.getD y 0 = l[y]'(by omega) := by rw [List.getD_eq_getElem?_getD, hg]; rfl
    have hlt : l[y]'(by omega) < 2 ^ n := hs _ (List.getElem_mem _)
    refine ⟨?_, by rw [hgd]; exact Nat.xor_lt_two_pow hx hlt⟩
    unfold F_spec_l13Through_l1
    rw [Nat.zero_add, cI_get hy]
    simp only [Option.bind_some]
    rw [cI_get hg]
    simp only [Option.bind_some]
    rw [xor_nat (by omega) (by omega), hgd])
  have e : (setN m).foldl (fun x k => x ^^^ l.getD k 0) 0 = thr l m := by
    unfold setN thr
    rw [List.foldl_filter]
  rw [e] at h1 h2
  rw [cI_len]
  exact ⟨h1, h2⟩
theorem through_spec {l : List Nat} {n m : Nat} (hl : l.length = n) (hn : n ≤ 5) (hs : ∀ x ∈ l, x < 2 ^ n) (hm : m < 2 ^ n) :
    F_spec_l13Through (TLinear.mk (cI l)) (m : Int) = some ((thr l m : Nat) : Int) := by
  have h32 := pow32 hn
  have := setN_len m
  unfold F_spec_l13Through
  rw [set_eq (by omega)]
  simp only [Option.bind_some]
  rw [chk_t (by rw [cI_len]; omega), (through_loop hl hn hs hm).1]
  rfl
theorem through_impl {l : List Nat} {n m : Nat} (hl : l.length = n) (hn : n ≤ 5) (hs : ∀ x ∈ l, x < 2 ^ n) (hm : m < 2 ^ n) :
    F_impl_Linear_through (TLinear.mk (cI l)) (m : Int) = some ((thr l m : Nat) : Int) := by
  have h32 := pow32 hn
  unfold F_impl_Linear_through
  obtain ⟨h1, h2⟩ := forN_fold (f := F_impl_Linear_through_l1 (TLinear.mk (cI l)) (m : Int)) (g := fun x k => if m.testBit k then x ^^^ l.getD k 0 else x) (fun x => x < 2 ^ n) (List.range n) 0 0 (Nat.two_pow_pos n) (fun j y x hy hx => by
    have hjy : j < n ∧ y = j := by
      have hj := (List.getElem?_eq_some_iff.1 hy).1
      rw [List.length_range] at hj
      rw [List.getElem?_range hj] at hy
      exact ⟨hj, by cases hy; rfl⟩
    obtain ⟨hj, rfl⟩ := hjy
    have hg := List.getElem?_eq_getElem (show y < l.length by omega)
    have hgd : l.getD y 0 = l[y]'(by omega) := by rw [List.getD_eq_getElem?_getD, hg]; rfl
    have hlt : l[y]'(by omega) < 2 ^ n := hs _ (List.getElem_mem _)
    unfold F_impl_Linear_through_l1
    rw [Nat.zero_add, cI_get hg]
    simp only [Option.bind_some]
    rw [chk_t (by omega), tb (by omega) (by omega)]
    cases hb : m.testBit y with
    | false => exact ⟨rfl, by simpa using hx⟩
    | true =>
      simp only [cond_true, Option.bind_some, if_true]
      rw [xor_nat (by omega) (by omega), hgd]
      exact ⟨rfl, Nat.xor_lt_two_pow hx hlt⟩)
  have stop : ∀ k, (List.range (n + k)).foldl (fun x k => if m.testBit k then x ^^^ l.getD k 0 else x) 0 = (List.range n).foldl (fun x k => if m.testBit k then x ^^^ l.getD k 0 else x) 0 := by
    intro k
    induction k with
    | zero => rfl
    | succ k ih =>
      rw [← Nat.add_assoc, List.range_succ, List.foldl_append, ih]
      simp only [List.foldl_cons, List.foldl_nil]
      rw [tb_out hm (show n ≤ n + k by omega)]
      rfl
  have e : (List.range n).foldl (fun x k => if m.testBit k then x ^^^ l.getD k 0 else x) 0 = thr l m := by
    rw [← stop (5 - n), show n + (5 - n) = 5 by omega]; rfl
  rw [e, List.length_range] at h1
  rw [chk_t (show (cI l).length ≤ 9223372036854775807 by rw [cI_len]; omega)]
  rw [show (TLinear.mk (cI l)).Rows.length = n by simp only [cI_len]; exact hl]
  rw [show forN (F_impl_Linear_through_l1 (TLinear.mk (cI l)) (m : Int)) n 0 0 = some ((thr l m : Nat) : Int) from h1]
  rfl
theorem thr_lt {l : List Nat} {n m : Nat} (hl : l.length = n) (hn : n ≤ 5) (hs : ∀ x ∈ l, x < 2 ^ n) (hm : m < 2 ^ n) : thr l m < 2 ^ n := (through_loop hl hn hs hm).2
theorem wh_list {ρ : Type} {f : (List Int × Int) → Option (Ex (List Int × Int) ρ)} {L : List Nat} {g : Nat → Nat}
    (hstep : ∀ (i y : Nat) (acc : List Int), acc.length = i → L[i]? = some y → f (acc, (i : Int)) = some (.nx (acc ++ [((g y : Nat) : Int)], ((i + 1 : Nat) : Int))))
    (hend : ∀ acc, f (acc, (L.length : Int)) = some (.br (acc, (L.length : Int)))) :
    ∀ (q m i : Nat), i + m = L.length → m < q → whX f q (cI ((L.take i).map g), (i : Int)) = some (.inl (cI (L.map g), (L.length : Int)))
  | 0, _, _, _, h => absurd h (Nat.not_lt_zero _)
  | q + 1, 0, i, hm, _ => by
    have hi : i = L.length := by omega
    subst hi
    simp only [whX]
    rw [hend]
    simp only [Option.bind_some, List.take_length]
  | q + 1, m + 1, i, hm, hq => by
    have hx := List.getElem?_eq_getElem (show i < L.length by omega)
    generalize L[i] = x at hx
    have ih := wh_list hstep hend q m (i + 1) (by omega) (by omega)
    simp only [whX]
    rw [hstep i x _ (by rw [cI_len, List.length_map, List.length_take]; omega) hx]
    simp only [Option.bind_some]
    rw [← ih]
    congr 3
    rw [List.take_add_one, hx]
    simp [cI]
theorem then_both {l l2 : List Nat} {n : Nat} (hl : l.length = n) (hn : n ≤ 5) (hs : ∀ x ∈ l, x < 2 ^ n) (hl2 : l2.length = n) (hs2 : ∀ x ∈ l2, x < 2 ^ n)
    (v1 : F_impl_IsValidLinear (TLinear.mk (cI l)) = some true) (v2 : F_impl_IsValidLinear (TLinear.mk (cI l2)) = some true) :
    F_spec_l12Then (TLinear.mk (cI l)) (TLinear.mk (cI l2)) = some (TLinear.mk (cI (l2.map (thr l)))) ∧ F_impl_ComposeLinear (TLinear.mk (cI l)) (TLinear.mk (cI l2)) = some (TLinear.mk (cI (l2.map (thr l))), true) := by
  have h32 := pow32 hn
  constructor
  · unfold F_spec_l12Then
    have := wh_list (f := F_spec_l12Then_l1 (TLinear.mk (cI l2)) (TLinear.mk (cI l))) (L := l2) (g := thr l) (fun i y acc ha hy => by
      have hi := (List.getElem?_eq_some_iff.1 hy).1
      have hy2 := hs2 y (List.mem_of_getElem? hy)
      have hsl := setN_len y
      unfold F_spec_l12Then_l1
      simp only [cI_len]
      rw [decide_eq_true (show (i : Int) < (l2.length : Int) by omega), cI_get hy]
      simp only [cond_true, Option.bind_some]
      rw [set_eq (show y < 32 by omega)]
      simp only [Option.bind_some]
      rw [chk_t (by rw [cI_len]; omega)]
      rw [show forN (F_spec_l12Then_l2 (cI (setN y)) (TLinear.mk (cI l)) acc) (cI (setN y)).length 0 0 = some ((thr l y : Nat) : Int) from (through_loop hl hn hs hy2).1]
      simp only [Option.bind_some]
      rw [chk_t (by omega), wrap_i64 (a := (i : Int) + 1) ⟨by omega, by omega⟩]
      rfl) (fun acc => by
      unfold F_spec_l12Then_l1
      simp only [cI_len]
      rw [decide_eq_false (show ¬ (l2.length : Int) < (l2.length : Int) by omega)]
      rfl) fuel l2.length 0 (by omega) (fuelB (by omega))
    rw [show (([] : List Int), (0 : Int)) = (cI ((l2.take 0).map (thr l)), ((0 : Nat) : Int)) from rfl, this]
    rfl
  · unfold F_impl_ComposeLinear
    rw [v1, v2]
    simp only [Option.bind_some, gb, Bool.not_true, Bool.not_false, cond_true, Bool.false_or, cI_len]
    have e : ((l.length : Int) != (l2.length : Int)) = false := by rw [hl, hl2]; exact bne_self_eq_false _
    rw [e]
    simp only [cond_false]
    have := wh_list (f := F_impl_ComposeLinear_l1 (TLinear.mk (cI l2)) (TLinear.mk (cI l))) (L := l2) (g := thr l) (fun i y acc ha hy => by
      have hi := (List.getElem?_eq_some_iff.1 hy).1
      have hy2 := hs2 y (List.mem_of_getElem? hy)
      unfold F_impl_ComposeLinear_l1
      simp only [cI_len]
      rw [decide_eq_true (show (i : Int) < (l2.length : Int) by omega), cI_get hy]
      simp only [cond_true, Option.bind_some]
      rw [through_impl hl hn hs hy2]
      simp only [Option.bind_some]
      rw [chk_t (by omega), wrap_i64 (a := (i : Int) + 1) ⟨by omega, by omega⟩]
      rfl) (fun acc => by
      unfold F_impl_ComposeLinear_l1
      simp only [cI_len]
      rw [decide_eq_false (show ¬ (l2.length : Int) < (l2.length : Int) by omega)]
      rfl) fuel l2.length 0 (by omega) (fuelB (by omega))
    rw [show (([] : List Int), (0 : Int)) = (cI ((l2.take 0).map (thr l)), ((0 : Nat) : Int)) from rfl, this]
    rfl

theorem spec_in : F_spec_l1In = F_impl_within := rfl
theorem in_eq (n a b : Int) : F_impl_within n a b = some (decide (a ≤ n) && decide (n ≤ b)) := rfl
theorem bsV {α : Type} {b : Bool} {x y : α} : (bif b then some x else some y) = some (bif b then x else y) := by cases b <;> rfl
theorem shl_small {n : Int} (h : 1 ≤ n ∧ n ≤ 5) : (0 : Int) ≤ IntKind.u64.wrap n ∧ shlK .i64 1 (IntKind.u64.wrap n) = ((2 ^ n.toNat : Nat) : Int) ∧ shlK .i64 1 n = ((2 ^ n.toNat : Nat) : Int) ∧ 2 ^ n.toNat ≤ 32 ∧ 2 ≤ 2 ^ n.toNat ∧
    IntKind.i64.wrap (((2 ^ n.toNat : Nat) : Int) - 1) = ((2 ^ n.toNat : Nat) : Int) - 1 := by
  have : n = 1 ∨ n = 2 ∨ n = 3 ∨ n = 4 ∨ n = 5 := by omega
  rcases this with rfl | rfl | rfl | rfl | rfl <;> decide
theorem index_eqI {l : List Int} {f : Int → Option Bool} {p : Int → Bool} (hl : l.length ≤ 9223372036854775807) (hf : ∀ x, f x = some (p x)) :
    ∃ i, F_slices_IndexFunc_int_int l f = some i ∧ decide (0 ≤ i) = l.any p := by
  unfold F_slices_IndexFunc_int_int
  rw [chk_t hl]
  rcases forX_any (f := F_slices_IndexFunc_int_int_l1 l f) (l := l) (p := p) (q := fun i => (i : Int)) (fun i x hx => by
    unfold F_slices_IndexFunc_int_int_l1
    simp only [getI_nat, hx, Option.bind_some, hf, bsV]) with ⟨h1, h2⟩ | ⟨h1, i, _, h2⟩
  · rw [h2, h1]; exact ⟨-1, rfl, by decide⟩
  · rw [h2, h1]; exact ⟨i, rfl, by simp⟩
theorem contains_eqI {l : List Int} {f : Int → Option Bool} {p : Int → Bool} (hl : l.length ≤ 9223372036854775807) (hf : ∀ x, f x = some (p x)) :
    F_slices_ContainsFunc_int_int l f = some (l.any p) := by
  unfold F_slices_ContainsFunc_int_int
  obtain ⟨i, h1, h2⟩ := index_eqI hl hf
  rw [h1]; simp only [Option.bind_some, h2]
theorem any_not {α : Type} {l : List α} {p : α → Bool} : (l.any fun x => !p x) = !l.all p := by
  induction l with
  | nil => rfl
  | cons x l ih => simp only [List.any_cons, List.all_cons, ih, Bool.not_and]
theorem l1All_eq {l : List Int} (hl : l.length ≤ 9223372036854775807) (a b : Int) : F_spec_l1All l a b = some (l.all fun x => decide (a ≤ x) && decide (x ≤ b)) := by
  unfold F_spec_l1All
  rw [chk_t hl]
  rcases forX_any (f := F_spec_l1All_l1 l a b) (l := l) (p := fun x => !(decide (a ≤ x) && decide (x ≤ b))) (q := fun _ => false) (fun i x hx => by
    unfold F_spec_l1All_l1 F_spec_l1In
    simp only [getI_nat, hx, Option.bind_some, bsV]) with ⟨h1, h2⟩ | ⟨h1, i, _, h2⟩
  · rw [h2]
    rw [any_not] at h1
    simp only [Option.bind_some, orR]
    rw [show (l.all fun x => decide (a ≤ x) && decide (x ≤ b)) = true by simpa using h1]
  · rw [h2]
    rw [any_not] at h1
    simp only [Option.bind_some, orR]
    rw [show (l.all fun x => decide (a ≤ x) && decide (x ≤ b)) = false by simpa using h1]
/-- A list of small numbers is one of words. -/
theorem cI_of {R : List Int} (h : ∀ x ∈ R, 0 ≤ x) : R = cI (R.map Int.toNat) := by
  unfold cI
  rw [List.map_map]
  conv => lhs; rw [← List.map_id R]
  apply List.map_congr_left
  intro x hx
  have := h x hx
  simp only [id, Function.comp]
  omega
/-- Both say the same of a linear map. -/
theorem lin_both {R : List Int} (hl : R.length ≤ 9223372036854775807) : ∃ b, F_spec_l12Valid (TLinear.mk R) = some b ∧ F_impl_IsValidLinear (TLinear.mk R) = some b ∧
    (b = true → ∃ l : List Nat, R = cI l ∧ 1 ≤ l.length ∧ l.length ≤ 5 ∧ (∀ x ∈ l, x < 2 ^ l.length) ∧ F_spec_l12Rank R = some (R.length : Int)) := by
  unfold F_spec_l12Valid F_impl_IsValidLinear
  rw [spec_in, in_eq]
  simp only [Option.bind_some]
  by_cases hn : 1 ≤ (R.length : Int) ∧ (R.length : Int) ≤ 5
  · obtain ⟨s1, s2, s3, s4, s5, s6⟩ := shl_small hn
    rw [decide_eq_true hn.1, decide_eq_true hn.2]
    simp only [Bool.and_self, Bool.true_and, gb, cond_true]
    rw [chk_t (fun _ => s1), s2, s6, l1All_eq hl, contains_eqI (p := fun x => !(decide (0 ≤ x) && decide (x ≤ ((2 ^ ((R.length : Int)).toNat : Nat) : Int) - 1))) hl (fun x => by
      unfold F_impl_IsValidLinear_1
      rw [chk_t (by omega), s3, s6, in_eq]; rfl)]
    simp only [Option.bind_some, any_not, Bool.not_not]
    cases hall : R.all fun x => decide (0 ≤ x) && decide (x ≤ ((2 ^ ((R.length : Int)).toNat : Nat) : Int) - 1) with
    | false => exact ⟨false, by simp, by simp, fun h => by cases h⟩
    | true =>
      have hx : ∀ x ∈ R, 0 ≤ x ∧ x ≤ ((2 ^ ((R.length : Int)).toNat : Nat) : Int) - 1 := fun x hx => by
        have := List.all_eq_true.1 hall x hx
        simpa using this
      have hR := cI_of (fun x hx' => (hx x hx').1)
      have hlen : (R.map Int.toNat).length = R.length := by simp
      have hsm : ∀ x ∈ R.map Int.toNat, x < 2 ^ (R.map Int.toNat).length := fun x hx' => by
        obtain ⟨y, hy, rfl⟩ := List.mem_map.1 hx'
        have := hx y hy
        rw [hlen]
        rw [Int.toNat_natCast] at this
        omega
      obtain ⟨r, r1, r2⟩ := rank_both (l := R.map Int.toNat) (by omega) (fun x hx' => by
        have := hsm x hx'
        rw [hlen] at this
        rw [Int.toNat_natCast] at s4
        omega)
      rw [← hR] at r1 r2
      simp only [cond_true]
      rw [r1, r2]
      simp only [Option.bind_some, Bool.and_self, Bool.true_and]
      refine ⟨_, rfl, rfl, fun hb => ⟨R.map Int.toNat, hR, by omega, by omega, hsm, ?_⟩⟩
      have := eq_of_beq hb
      rw [this]
  · have e : (decide (1 ≤ (R.length : Int)) && decide ((R.length : Int) ≤ 5)) = false := by
      simp only [Bool.and_eq_false_iff, decide_eq_false_iff_not]; omega
    rw [e]
    simp only [gb, cond_false, Option.bind_some, Bool.false_and]
    rw [chk_t (fun h => by cases h)]
    exact ⟨false, rfl, rfl, fun h => by cases h⟩
/-- A phase polynomial that is taken, over n wires. -/
def PolyOk (p : TPhasePoly) (n : Nat) (l : List Nat) : Prop :=
  (1 ≤ n ∧ n ≤ 5 ∧ p.Qubits = (n : Int)) ∧ (0 ≤ p.Phase ∧ p.Phase ≤ 7) ∧ (p.Out = TLinear.mk (cI l) ∧ l.length = n ∧ (∀ x ∈ l, x < 2 ^ n) ∧ F_spec_l12Rank (cI l) = some (n : Int) ∧ F_spec_l12Valid p.Out = some true ∧ F_impl_IsValidLinear p.Out = some true) ∧
  (∀ (i : Nat) x, p.Terms[i]? = some x → (1 ≤ x.Mask ∧ x.Mask < ((2 ^ n : Nat) : Int) ∧ 1 ≤ x.Coef ∧ x.Coef ≤ 7)) ∧ (∀ (i : Nat) x y, p.Terms[i]? = some x → p.Terms[i + 1]? = some y → x.Mask < y.Mask)
theorem areTerms_both {T : List TTerm} {n : Int} (hn : 1 ≤ n ∧ n ≤ 5) (hl : T.length ≤ 9223372036854775807) : ∃ b, F_impl_areTerms n T = some b ∧
    (b = true → (∀ (i : Nat) x, T[i]? = some x → (1 ≤ x.Mask ∧ x.Mask < ((2 ^ n.toNat : Nat) : Int) ∧ 1 ≤ x.Coef ∧ x.Coef ≤ 7)) ∧ (∀ (i : Nat) x y, T[i]? = some x → T[i + 1]? = some y → x.Mask < y.Mask)) := by
  obtain ⟨s1, s2, s3, s4, s5, s6⟩ := shl_small hn
  unfold F_impl_areTerms
  rw [chk_t hl]
  rcases forX_inv (f := F_impl_areTerms_l1 T n) (fun k _ => (∀ (i : Nat) x, i < k → T[i]? = some x → (1 ≤ x.Mask ∧ x.Mask < ((2 ^ n.toNat : Nat) : Int) ∧ 1 ≤ x.Coef ∧ x.Coef ≤ 7)) ∧ (∀ (i : Nat) x y, i + 1 < k → T[i]? = some x → T[i + 1]? = some y → x.Mask < y.Mask)) (fun r => r = false)
    T.length 0 () ⟨fun i x h => absurd h (Nat.not_lt_zero _), fun i x y h => absurd h (Nat.not_lt_zero _)⟩ (fun k s _ hk ⟨h1, h2⟩ => by
    have hk : k < T.length := by omega
    have hx := List.getElem?_eq_getElem hk
    generalize T[k] = x at hx
    unfold F_impl_areTerms_l1
    rw [getI_nat, hx]
    simp only [Option.bind_some]
    rw [chk_t (by omega), s3, s6, in_eq, in_eq]
    simp only [Option.bind_some]
    by_cases hok : (1 ≤ x.Mask ∧ x.Mask ≤ ((2 ^ n.toNat : Nat) : Int) - 1) ∧ 1 ≤ x.Coef ∧ x.Coef ≤ 7
    · rw [decide_eq_true hok.1.1, decide_eq_true hok.1.2, decide_eq_true hok.2.1, decide_eq_true hok.2.2]
      simp only [Bool.and_self, Bool.not_true, Bool.not_false, Bool.or_self, gb, cond_true, Option.bind_some, Bool.true_and, Bool.false_or]
      have here : ∀ (i : Nat) z, i < k + 1 → T[i]? = some z → (1 ≤ z.Mask ∧ z.Mask < ((2 ^ n.toNat : Nat) : Int) ∧ 1 ≤ z.Coef ∧ z.Coef ≤ 7) := fun i z hi hz => by
        by_cases hik : i = k
        · subst hik; rw [hx] at hz; cases hz; exact ⟨hok.1.1, by omega, hok.2.1, hok.2.2⟩
        · exact h1 i z (by omega) hz
      by_cases hk0 : k = 0
      · subst hk0
        rw [decide_eq_false (show ¬ (0 : Int) < ((0 : Nat) : Int) by omega)]
        simp only [cond_false, Option.bind_some, Bool.false_and]
        exact .inl ⟨(), by first | rfl | trivial, here, fun i a b hi => by omega⟩
      · rw [decide_eq_true (show (0 : Int) < (k : Int) by omega), wrap_i64 (a := (k : Int) - 1) ⟨by omega, by omega⟩]
        obtain ⟨j, rfl⟩ : ∃ j, k = j + 1 := ⟨k - 1, by omega⟩
        rw [show (((j + 1 : Nat) : Int) - 1) = ((j : Nat) : Int) by omega, getI_nat]
        have hy := List.getElem?_eq_getElem (show j < T.length by omega)
        generalize T[j] = y at hy
        rw [hy]
        simp only [cond_true, Option.bind_some, Bool.true_and]
        by_cases hlt : x.Mask ≤ y.Mask
        · rw [decide_eq_true hlt]; exact .inr ⟨false, rfl, rfl⟩
        · rw [decide_eq_false hlt]
          refine .inl ⟨(), rfl, here, fun i a b hi ha hb => ?_⟩
          by_cases hij : i = j
          · subst hij; rw [hy] at ha; rw [hx] at hb; cases ha; cases hb; omega
          · exact h2 i a b (by omega) ha hb
    · refine .inr ⟨false, ?_, rfl⟩
      have e : ((!(decide (1 ≤ x.Mask) && decide (x.Mask ≤ ((2 ^ n.toNat : Nat) : Int) - 1))) || !(decide (1 ≤ x.Coef) && decide (x.Coef ≤ 7))) = true := by
        simp only [Bool.or_eq_true, Bool.not_eq_true', Bool.and_eq_false_iff, decide_eq_false_iff_not]
        omega
      cases hA : decide (1 ≤ x.Mask) && decide (x.Mask ≤ ((2 ^ n.toNat : Nat) : Int) - 1) with
      | false => simp [gb]
      | true =>
        rw [hA] at e
        simp only [Bool.not_true, Bool.false_or, Bool.not_eq_true'] at e
        simp [gb, e]) with ⟨⟨⟩, h1, h2, h3⟩ | ⟨r, h1, rfl⟩
  · rw [h1]
    exact ⟨true, rfl, fun _ => ⟨fun i x hx => h2 i x (by have := (List.getElem?_eq_some_iff.1 hx).1; omega) hx, fun i x y hx hy => h3 i x y (by have := (List.getElem?_eq_some_iff.1 hy).1; omega) hx hy⟩⟩
  · rw [h1]; exact ⟨false, rfl, fun h => by cases h⟩
theorem terms_loop {p : TPhasePoly} (hn : 1 ≤ p.Qubits ∧ p.Qubits ≤ 5) : F_spec_l13Valid_l1 p = F_impl_areTerms_l1 p.Terms p.Qubits := by
  obtain ⟨s1, s2, s3, s4, s5, s6⟩ := shl_small hn
  funext i u
  unfold F_spec_l13Valid_l1 F_impl_areTerms_l1
  rw [spec_in, s2, s3]
  cases getI p.Terms (i : Int) with
  | none => rfl
  | some x =>
    simp only [Option.bind_some]
    rw [chk_t s1, chk_t (by omega)]
/-- Both say the same of a phase polynomial. -/
theorem poly_both {p : TPhasePoly} (h1 : p.Terms.length ≤ 9223372036854775807) (h2 : p.Out.Rows.length ≤ 9223372036854775807) :
    ∃ b, F_spec_l13Valid p = some b ∧ F_impl_IsValidPhasePoly p = some b ∧ (b = true → ∃ n l, PolyOk p n l) := by
  obtain ⟨Q, P, T, ⟨R⟩⟩ := p
  obtain ⟨b1, e1, e2, e3⟩ := lin_both h2
  unfold F_spec_l13Valid F_impl_IsValidPhasePoly
  rw [spec_in, in_eq, in_eq]
  simp only [Option.bind_some]
  by_cases hn : 1 ≤ Q ∧ Q ≤ 5
  · obtain ⟨b2, f1, f2⟩ := areTerms_both (T := T) hn h1
    rw [decide_eq_true hn.1, decide_eq_true hn.2]
    rw [terms_loop (p := TPhasePoly.mk Q P T (TLinear.mk R)) hn]
    have hspec : (chk (T.length ≤ 9223372036854775807) <| (forX (F_impl_areTerms_l1 T Q) T.length 0 ()).bind <| orR fun _ => some true) = some b2 := f1
    simp only [gb, Bool.and_self, Bool.not_true, Bool.not_false, cond_true, Option.bind_some, Bool.false_or, Bool.true_and]
    cases hP : decide (0 ≤ P) && decide (P ≤ 7) with
    | false =>
      simp only [cond_false, cond_true, Bool.not_false, Bool.not_true, Bool.true_or, Option.bind_some, Bool.false_and]
      exact ⟨false, rfl, rfl, fun h => by cases h⟩
    | true =>
      simp only [cond_true, Bool.not_true, Bool.false_or, Option.bind_some, Bool.true_and]
      rw [f1]
      simp only [Option.bind_some]
      by_cases hlen : (R.length : Int) = Q
      · have g1 : ((R.length : Int) != Q) = false := by simp [hlen]
        have g2 : ((R.length : Int) == Q) = true := by simp [hlen]
        rw [g1, g2]
        simp only [Bool.not_false, cond_true, Bool.false_or, Bool.and_true]
        rw [e1]
        simp only [Option.bind_some]
        cases b1 with
        | false =>
          simp only [Bool.not_false, cond_true]
          cases b2 with
          | false => simp only [cond_false, Option.bind_some, Bool.false_and]; exact ⟨false, rfl, rfl, fun h => by cases h⟩
          | true => simp only [cond_true]; rw [e2]; exact ⟨false, rfl, rfl, fun h => by cases h⟩
        | true =>
          simp only [Bool.not_true, cond_false]
          rw [hspec]
          cases b2 with
          | false => simp only [cond_false, Option.bind_some, Bool.false_and]; exact ⟨false, rfl, rfl, fun h => by cases h⟩
          | true =>
            simp only [cond_true]
            rw [e2]
            refine ⟨true, rfl, rfl, fun _ => ?_⟩
            obtain ⟨l, l1, l2, l3, l4, l5⟩ := e3 rfl
            obtain ⟨t1, t2⟩ := f2 rfl
            have hll : l.length = R.length := by have := congrArg List.length l1; rw [cI_len] at this; exact this.symm
            have hP' : 0 ≤ P ∧ P ≤ 7 := by simpa using hP
            refine ⟨l.length, l, ⟨l2, l3, by simp only; omega⟩, hP', ⟨congrArg TLinear.mk l1, rfl, l4, ?_, e1, e2⟩, ?_, t2⟩
            · rw [← l1, hll]; exact l5
            · rw [show l.length = Q.toNat by omega]; exact t1
      · have g1 : ((R.length : Int) != Q) = true := by simp [hlen]
        have g2 : ((R.length : Int) == Q) = false := by simp [hlen]
        rw [g1, g2]
        simp only [Bool.not_true, cond_false, cond_true, Bool.true_or, Bool.and_false, Option.bind_some, Bool.false_and]
        exact ⟨false, rfl, rfl, fun h => by cases h⟩
  · have e : (decide (1 ≤ Q) && decide (Q ≤ 5)) = false := by
      simp only [Bool.and_eq_false_iff, decide_eq_false_iff_not]; omega
    rw [e]
    simp only [gb, cond_false, cond_true, Option.bind_some, Bool.false_and, Bool.not_false, Bool.not_true, Bool.true_or]
    exact ⟨false, rfl, rfl, fun h => by cases h⟩

theorem mask_mono {T : List TTerm} (h : ∀ (i : Nat) x y, T[i]? = some x → T[i + 1]? = some y → x.Mask < y.Mask) : ∀ (d i : Nat) x y, T[i]? = some x → T[i + (d + 1)]? = some y → x.Mask < y.Mask
  | 0, i, x, y, hx, hy => h i x y hx hy
  | d + 1, i, x, y, hx, hy => by
    have hl := (List.getElem?_eq_some_iff.1 hy).1
    have hz := List.getElem?_eq_getElem (show i + (d + 1) < T.length by omega)
    have h1 := mask_mono h d i x _ hx hz
    have h2 := h (i + (d + 1)) _ y hz hy
    omega
theorem mask_ge {p : TPhasePoly} {n : Nat} {l : List Nat} (h : PolyOk p n l) : ∀ (i : Nat) x, p.Terms[i]? = some x → (i : Int) + 1 ≤ x.Mask
  | 0, x, hx => by have := (h.2.2.2.1 0 x hx).1; omega
  | i + 1, x, hx => by
    have hl := (List.getElem?_eq_some_iff.1 hx).1
    have hz := List.getElem?_eq_getElem (show i < p.Terms.length by omega)
    have h1 := mask_ge h i _ hz
    have h2 := h.2.2.2.2 i _ x hz hx
    omega
theorem terms_len {p : TPhasePoly} {n : Nat} {l : List Nat} (h : PolyOk p n l) : p.Terms.length ≤ 31 := by
  rcases Nat.lt_or_ge 31 p.Terms.length with hl | hl
  · have hz := List.getElem?_eq_getElem hl
    have h1 := mask_ge h 31 _ hz
    have h2 := (h.2.2.2.1 31 _ hz).2.1
    have h3 := pow32 h.1.2.1
    omega
  · exact hl
theorem mask_nat {p : TPhasePoly} {n : Nat} {l : List Nat} (h : PolyOk p n l) {i : Nat} {x : TTerm} (hx : p.Terms[i]? = some x) : ∃ m : Nat, x.Mask = (m : Int) ∧ 1 ≤ m ∧ m < 2 ^ n := by
  have := h.2.2.2.1 i x hx
  exact ⟨x.Mask.toNat, by omega, by omega, by omega⟩
theorem same_zero {n : Nat} (hn : n ≤ 5) : Same (2 ^ n) 0 (List.replicate (2 ^ n) 0) (List.replicate 32 0) := by
  have := pow32 hn
  refine ⟨by simp, by simp, this, fun j x hx => ?_, fun j h1 h2 => by rw [List.getElem?_replicate, if_pos h2]⟩
  have hj := (List.getElem?_eq_some_iff.1 hx).1
  rw [List.length_replicate] at hj
  rw [List.getElem?_replicate, if_pos hj] at hx
  cases hx
  refine ⟨by omega, by omega, ?_⟩
  rw [List.getElem?_replicate, if_pos (by omega)]; rfl
theorem by_both {p : TPhasePoly} {n : Nat} {l : List Nat} (h : PolyOk p n l) {g : Nat → List Int → Option (List Int)}
    (hg : ∀ (i : Nat) x S, p.Terms[i]? = some x → g i S = F_impl_coefficients_add S x.Mask x.Coef) :
    ∃ B S, F_spec_l13By p = some B ∧ forN g p.Terms.length 0 (List.replicate 32 0) = some S ∧ Same (2 ^ n) 1000 B S := by
  have hlen := terms_len h
  have h32 := pow32 h.1.2.1
  have hq : 1 ≤ p.Qubits ∧ p.Qubits ≤ 5 := by have := h.1; omega
  obtain ⟨s1, s2, s3, s4, s5, s6⟩ := shl_small hq
  have hqn : p.Qubits.toNat = n := by have := h.1; omega
  rw [hqn] at s2 s3 s4 s5 s6
  unfold F_spec_l13By
  rw [chk_t s1, s2, chk_t ⟨by omega, by omega⟩, chk_t (by omega), Int.toNat_natCast]
  obtain ⟨B, S, h1, h2, h3⟩ := forN2_inv (f := F_spec_l13By_l1 p) (g := g) (fun i B S => Same (2 ^ n) (28 * (i : Int)) B S ∧ ∀ j : Nat, (∀ t x, t < i → p.Terms[t]? = some x → x.Mask < (j : Int)) → j < 2 ^ n → B[j]? = some 0)
    p.Terms.length 0 (List.replicate (2 ^ n) 0) (List.replicate 32 0) ⟨same_zero h.1.2.1, fun j _ hj => by rw [List.getElem?_replicate, if_pos hj]⟩ (fun i B S _ hi ⟨h1, h2⟩ => by
    have hx := List.getElem?_eq_getElem (show i < p.Terms.length by omega)
    generalize p.Terms[i] = x at hx
    obtain ⟨m, hm, m1, m2⟩ := mask_nat h hx
    have hc := h.2.2.2.1 i x hx
    have hz := h2 m (fun t y ht hy => by
      rw [← hm]
      obtain ⟨d, rfl⟩ : ∃ d, i = t + (d + 1) := ⟨i - t - 1, by omega⟩
      exact mask_mono h.2.2.2.2 d t y x hy hx) m2
    have hgz : getI B x.Mask = some 0 := by rw [hm, getI_nat]; exact hz
    obtain ⟨x', e1, e2, e3, e4⟩ := h1.add (by omega) (i := x.Mask) (d := x.Coef) (by omega) (by omega) ⟨by omega, by omega⟩
    rw [hgz] at e1
    cases e1
    rw [e3] at e4
    rw [Int.zero_add] at e2 e4
    refine ⟨B.set x.Mask.toNat x.Coef, _, ?_, by rw [hg i x S hx]; exact e2, ?_, fun j hj hj2 => ?_⟩
    · unfold F_spec_l13By_l1
      rw [getI_nat, hx]
      simp only [Option.bind_some, hgz]
    · refine e4.mono ?_
      push_cast; omega
    · have hmj := hj i x (Nat.lt_succ_self i) hx
      rw [List.getElem?_set_ne (by omega)]
      exact h2 j (fun t y ht hy => hj t y (by omega) hy) hj2)
  rw [h1, h2]
  exact ⟨B, S, rfl, rfl, h3.1.mono (by push_cast; omega)⟩

theorem wrapU {a : Nat} (h : a < 18446744073709551616) : IntKind.u64.wrap (a : Int) = (a : Int) := by
  simp [IntKind.wrap, IntKind.signed, IntKind.bits]
  omega
theorem shr_u (x k : Nat) (hk : k ≤ 64) : shrK .u64 (x : Int) (k : Int) = ((x / 2 ^ k : Nat) : Int) := by
  unfold shrK
  rw [Int.toNat_natCast, Nat.min_eq_left (show k ≤ IntKind.bits .u64 from hk), Int.ofNat_fdiv]
  simp
theorem and_u {a b : Nat} (ha : a < 18446744073709551616) (hb : b < 18446744073709551616) : bits .and .u64 (a : Int) (b : Int) = ((a &&& b : Nat) : Int) := by
  have h1 : a &&& b ≤ a := Nat.and_le_left
  show IntKind.u64.wrap ((BitVec.ofInt 64 (a : Int) &&& BitVec.ofInt 64 (b : Int)).toNat : Int) = _
  have e1 : BitVec.ofInt 64 (a : Int) = BitVec.ofNat 64 a := rfl
  have e2 : BitVec.ofInt 64 (b : Int) = BitVec.ofNat 64 b := rfl
  rw [e1, e2, BitVec.toNat_and, BitVec.toNat_ofNat, BitVec.toNat_ofNat, Nat.mod_eq_of_lt (by omega), Nat.mod_eq_of_lt (by omega)]
  exact wrapU (by omega)
theorem and_i {a b : Nat} (ha : a < 9223372036854775808) (hb : b < 9223372036854775808) : bits .and .i64 (a : Int) (b : Int) = ((a &&& b : Nat) : Int) := by
  have h1 : a &&& b ≤ a := Nat.and_le_left
  show IntKind.i64.wrap ((BitVec.ofInt 64 (a : Int) &&& BitVec.ofInt 64 (b : Int)).toNat : Int) = _
  have e1 : BitVec.ofInt 64 (a : Int) = BitVec.ofNat 64 a := rfl
  have e2 : BitVec.ofInt 64 (b : Int) = BitVec.ofNat 64 b := rfl
  rw [e1, e2, BitVec.toNat_and, BitVec.toNat_ofNat, BitVec.toNat_ofNat, Nat.mod_eq_of_lt (by omega), Nat.mod_eq_of_lt (by omega)]
  exact wrap_i64 ⟨by omega, by omega⟩
theorem and_step (k : Nat) {d c : Nat} (y M : Nat) (hd : d < 2 ^ k) (hc : c < 2 ^ k) : (d + 2 ^ k * y) &&& (c + 2 ^ k * M) = (d &&& c) + 2 ^ k * (y &&& M) := by
  have hdc : d &&& c < 2 ^ k := Nat.and_lt_two_pow d hc
  apply Nat.eq_of_testBit_eq
  intro j
  rw [Nat.add_comm d, Nat.add_comm c, Nat.add_comm (d &&& c), Nat.testBit_and, Nat.testBit_two_pow_mul_add _ hd, Nat.testBit_two_pow_mul_add _ hc, Nat.testBit_two_pow_mul_add _ hdc]
  by_cases h : j < k
  · rw [if_pos h, if_pos h, if_pos h, Nat.testBit_and]
  · rw [if_neg h, if_neg h, if_neg h, Nat.testBit_and]
def val : List Nat → Nat
  | [] => 0
  | d :: t => d + 16 * val t
def mskN (c : Nat) : Nat → Nat
  | 0 => 0
  | n + 1 => c + 16 * mskN c n
def a4 (d : Nat) : Nat := (d / 2 &&& 5) + (d &&& 5)
def b4 (d : Nat) : Nat := (d / 4 &&& 3) + (d &&& 3)
def c4 (d : Nat) : Nat := b4 (a4 d)
theorem a4_lt : ∀ d : Fin 16, a4 d.val < 16 ∧ c4 d.val ≤ 4 ∧ ∀ e : Fin 2, (d.val / 2 + 8 * e.val) &&& 5 = d.val / 2 &&& 5 := by decide
theorem b4_lt : ∀ d : Fin 16, ∀ e : Fin 4, (d.val / 4 + 4 * e.val) &&& 3 = d.val / 4 &&& 3 := by decide
theorem stA : ∀ (ds : List Nat) (n : Nat), ds.length ≤ n → (∀ d ∈ ds, d < 16) → (val ds / 2 &&& mskN 5 n) + (val ds &&& mskN 5 n) = val (ds.map a4)
  | [], n, _, _ => by simp [val]
  | d :: t, 0, h, _ => absurd h (by simp)
  | d :: t, n + 1, h, hd => by
    have hd16 := hd d (List.mem_cons_self ..)
    have ih := stA t n (by simpa using h) (fun x hx => hd x (List.mem_cons_of_mem _ hx))
    have e1 : (d + 16 * val t) / 2 = (d / 2 + 8 * (val t % 2)) + 2 ^ 4 * (val t / 2) := by omega
    have e2 := (a4_lt ⟨d, hd16⟩).2.2 ⟨val t % 2, Nat.mod_lt _ (by decide)⟩
    simp only at e2
    have e3 := and_step 4 (d := d / 2 + 8 * (val t % 2)) (c := 5) (val t / 2) (mskN 5 n) (by omega) (by decide)
    have e4 := and_step 4 (d := d) (c := 5) (val t) (mskN 5 n) (by omega) (by decide)
    show ((d + 16 * val t) / 2 &&& (5 + 16 * mskN 5 n)) + ((d + 16 * val t) &&& (5 + 16 * mskN 5 n)) = a4 d + 16 * val (t.map a4)
    rw [e1, show (5 + 16 * mskN 5 n) = 5 + 2 ^ 4 * mskN 5 n from rfl, e3, show d + 16 * val t = d + 2 ^ 4 * val t from rfl, e4, e2, ← ih]
    unfold a4
    omega
theorem stB : ∀ (ds : List Nat) (n : Nat), ds.length ≤ n → (∀ d ∈ ds, d < 16) → (val ds / 4 &&& mskN 3 n) + (val ds &&& mskN 3 n) = val (ds.map b4)
  | [], n, _, _ => by simp [val]
  | d :: t, 0, h, _ => absurd h (by simp)
  | d :: t, n + 1, h, hd => by
    have hd16 := hd d (List.mem_cons_self ..)
    have ih := stB t n (by simpa using h) (fun x hx => hd x (List.mem_cons_of_mem _ hx))
    have e1 : (d + 16 * val t) / 4 = (d / 4 + 4 * (val t % 4)) + 2 ^ 4 * (val t / 4) := by omega
    have e2 := b4_lt ⟨d, hd16⟩ ⟨val t % 4, Nat.mod_lt _ (by decide)⟩
    simp only at e2
    have e3 := and_step 4 (d := d / 4 + 4 * (val t % 4)) (c := 3) (val t / 4) (mskN 3 n) (by omega) (by decide)
    have e4 := and_step 4 (d := d) (c := 3) (val t) (mskN 3 n) (by omega) (by decide)
    show ((d + 16 * val t) / 4 &&& (3 + 16 * mskN 3 n)) + ((d + 16 * val t) &&& (3 + 16 * mskN 3 n)) = b4 d + 16 * val (t.map b4)
    rw [e1, show (3 + 16 * mskN 3 n) = 3 + 2 ^ 4 * mskN 3 n from rfl, e3, show d + 16 * val t = d + 2 ^ 4 * val t from rfl, e4, e2, ← ih]
    unfold b4
    omega
theorem byte15 {p q : Nat} (h : p < 16) : (p + 16 * q) &&& 15 = p := by
  rw [show (15 : Nat) = 2 ^ 4 - 1 from rfl, Nat.and_two_pow_sub_one_eq_mod]
  omega
def pA (x : Int) : Int := IntKind.u64.wrap (bits .and .u64 (shrK .u64 x 1) 6148914691236517205 + bits .and .u64 x 6148914691236517205)
def pB (x : Int) : Int := IntKind.u64.wrap (bits .and .u64 (shrK .u64 x 2) 3689348814741910323 + bits .and .u64 x 3689348814741910323)
def pC (x : Int) : Int := bits .and .u64 (IntKind.u64.wrap (shrK .u64 x 4 + x)) 1085102592571150095
def pD (x : Int) : Int := IntKind.u64.wrap (x + shrK .u64 x 8)
def pE (x : Int) : Int := IntKind.u64.wrap (x + shrK .u64 x 16)
def pF (x : Int) : Int := IntKind.u64.wrap (x + shrK .u64 x 32)
def pG (x : Int) : Int := bits .and .i64 (IntKind.i64.wrap x) 127
theorem ones_staged (x : Int) : F_math_bits_OnesCount64 x = some (pG (pF (pE (pD (pC (pB (pA x))))))) := rfl
theorem val_lt {d0 d1 d2 d3 d4 d5 d6 d7 : Nat} (h0 : d0 < 16) (h1 : d1 < 16) (h2 : d2 < 16) (h3 : d3 < 16) (h4 : d4 < 16) (h5 : d5 < 16) (h6 : d6 < 16) (h7 : d7 < 16) : val [d0, d1, d2, d3, d4, d5, d6, d7] < 4294967296 := by
  simp only [val]; omega
theorem pA_eq {x A : Nat} (hx : x < 4294967296) (hA : A < 4294967296) (h : (x / 2 &&& 6148914691236517205) + (x &&& 6148914691236517205) = A) : pA (x : Int) = (A : Int) := by
  unfold pA
  have h2 : x / 2 < 18446744073709551616 := by omega
  have h1 : x < 18446744073709551616 := by omega
  rw [show (1 : Int) = ((1 : Nat) : Int) from rfl, shr_u x 1 (by decide), show (6148914691236517205 : Int) = ((6148914691236517205 : Nat) : Int) from rfl, show x / 2 ^ 1 = x / 2 from rfl, and_u h2 (by decide), and_u h1 (by decide), ← Int.natCast_add, h]
  exact wrapU (by omega)
theorem pB_eq {x A : Nat} (hx : x < 4294967296) (hA : A < 4294967296) (h : (x / 4 &&& 3689348814741910323) + (x &&& 3689348814741910323) = A) : pB (x : Int) = (A : Int) := by
  unfold pB
  have h2 : x / 4 < 18446744073709551616 := by omega
  have h1 : x < 18446744073709551616 := by omega
  rw [show (2 : Int) = ((2 : Nat) : Int) from rfl, shr_u x 2 (by decide), show (3689348814741910323 : Int) = ((3689348814741910323 : Nat) : Int) from rfl, show x / 2 ^ 2 = x / 4 from rfl, and_u h2 (by decide), and_u h1 (by decide), ← Int.natCast_add, h]
  exact wrapU (by omega)
theorem hC_eq {p0 p1 p2 p3 p4 p5 p6 p7 B : Nat} (n0 : p0 ≤ 4) (n1 : p1 ≤ 4) (n2 : p2 ≤ 4) (n3 : p3 ≤ 4) (n4 : p4 ≤ 4) (n5 : p5 ≤ 4) (n6 : p6 ≤ 4) (n7 : p7 ≤ 4) (hB : B = p0 + 16 * (p1 + 16 * (p2 + 16 * (p3 + 16 * (p4 + 16 * (p5 + 16 * (p6 + 16 * p7))))))) :
    (B / 16 + B) &&& 1085102592571150095 = (p0 + p1) + 256 * ((p2 + p3) + 256 * ((p4 + p5) + 256 * (p6 + p7))) := by
  have e : B / 16 + B = ((p0 + p1) + 16 * (p1 + p2)) + 2 ^ 8 * (((p2 + p3) + 16 * (p3 + p4)) + 2 ^ 8 * (((p4 + p5) + 16 * (p5 + p6)) + 2 ^ 8 * (((p6 + p7) + 16 * p7) + 2 ^ 8 * 0))) := by
    have : B / 16 = p1 + 16 * (p2 + 16 * (p3 + 16 * (p4 + 16 * (p5 + 16 * (p6 + 16 * p7))))) := by omega
    rw [this, hB]; clear this hB; omega
  have a0 : p0 + p1 + 16 * (p1 + p2) < 2 ^ 8 := by clear e hB; omega
  have a1 : p2 + p3 + 16 * (p3 + p4) < 2 ^ 8 := by clear e hB; omega
  have a2 : p4 + p5 + 16 * (p5 + p6) < 2 ^ 8 := by clear e hB; omega
  have a3 : p6 + p7 + 16 * p7 < 2 ^ 8 := by clear e hB; omega
  have b0 : p0 + p1 < 16 := by clear e hB; omega
  have b1 : p2 + p3 < 16 := by clear e hB; omega
  have b2 : p4 + p5 < 16 := by clear e hB; omega
  have b3 : p6 + p7 < 16 := by clear e hB; omega
  rw [e, show (1085102592571150095 : Nat) = 15 + 2 ^ 8 * (15 + 2 ^ 8 * (15 + 2 ^ 8 * (15 + 2 ^ 8 * 252645135))) from rfl, and_step 8 _ _ a0 (by decide), and_step 8 _ _ a1 (by decide), and_step 8 _ _ a2 (by decide), and_step 8 _ _ a3 (by decide),
    byte15 b0, byte15 b1, byte15 b2, byte15 b3, Nat.zero_and, Nat.mul_zero, Nat.add_zero]
theorem pC_eq {B C : Nat} (hB : B < 4294967296) (h : (B / 16 + B) &&& 1085102592571150095 = C) : pC (B : Int) = (C : Int) := by
  unfold pC
  have h1 : B / 16 + B < 18446744073709551616 := by omega
  rw [show (4 : Int) = ((4 : Nat) : Int) from rfl, shr_u B 4 (by decide), ← Int.natCast_add, show B / 2 ^ 4 = B / 16 from rfl, wrapU h1, show (1085102592571150095 : Int) = ((1085102592571150095 : Nat) : Int) from rfl, and_u h1 (by decide), h]
theorem pD_eq {C : Nat} (h : C < 4294967296) : pD (C : Int) = ((C + C / 256 : Nat) : Int) := by
  unfold pD
  rw [show (8 : Int) = ((8 : Nat) : Int) from rfl, shr_u C 8 (by decide), ← Int.natCast_add, show C / 2 ^ 8 = C / 256 from rfl, wrapU (by omega)]
theorem pE_eq {C : Nat} (h : C < 8589934592) : pE (C : Int) = ((C + C / 65536 : Nat) : Int) := by
  unfold pE
  rw [show (16 : Int) = ((16 : Nat) : Int) from rfl, shr_u C 16 (by decide), ← Int.natCast_add, show C / 2 ^ 16 = C / 65536 from rfl, wrapU (by omega)]
theorem pF_eq {C : Nat} (h : C < 17179869184) : pF (C : Int) = ((C + C / 4294967296 : Nat) : Int) := by
  unfold pF
  rw [show (32 : Int) = ((32 : Nat) : Int) from rfl, shr_u C 32 (by decide), ← Int.natCast_add, show C / 2 ^ 32 = C / 4294967296 from rfl, wrapU (by omega)]
theorem pG_eq {C : Nat} (h : C < 34359738368) : pG (C : Int) = ((C % 128 : Nat) : Int) := by
  unfold pG
  rw [wrap_i64 ⟨by omega, by omega⟩, show (127 : Int) = ((127 : Nat) : Int) from rfl, and_i (by omega) (by decide), show (127 : Nat) = 2 ^ 7 - 1 from rfl, Nat.and_two_pow_sub_one_eq_mod]
theorem sum_eq {q0 q1 q2 q3 : Nat} (h0 : q0 ≤ 8) (h1 : q1 ≤ 8) (h2 : q2 ≤ 8) (h3 : q3 ≤ 8) {C D E F : Nat} (hC : C = q0 + 256 * (q1 + 256 * (q2 + 256 * q3))) (hD : D = C + C / 256) (hE : E = D + D / 65536) (hF : F = E + E / 4294967296) :
    F % 128 = q0 + q1 + q2 + q3 ∧ C < 4294967296 ∧ D < 8589934592 ∧ E < 17179869184 ∧ F < 34359738368 := by
  have c1 : C / 256 = q1 + 256 * (q2 + 256 * q3) := by omega
  have d1 : D = (q0 + q1) + 256 * ((q1 + q2) + 256 * ((q2 + q3) + 256 * q3)) := by rw [hD, c1, hC]; omega
  clear hD c1
  have d2 : D / 65536 = (q2 + q3) + 256 * q3 := by rw [d1]; omega
  have e1 : E = (q0 + q1 + q2 + q3) + 256 * ((q1 + q2 + q3) + 256 * ((q2 + q3) + 256 * q3)) := by rw [hE, d2, d1]; omega
  clear hE d2
  have e2 : E / 4294967296 = 0 := by rw [e1]; omega
  have f1 : F = E := by rw [hF, e2]; omega
  clear hF e2
  refine ⟨?_, by omega, by omega, by omega, by omega⟩
  rw [f1, e1]; clear f1 e1 d1 hC; omega
/-- The sum of the bits in the eight parts of four. -/
theorem ones_val {d0 d1 d2 d3 d4 d5 d6 d7 : Nat} (h0 : d0 < 16) (h1 : d1 < 16) (h2 : d2 < 16) (h3 : d3 < 16) (h4 : d4 < 16) (h5 : d5 < 16) (h6 : d6 < 16) (h7 : d7 < 16) :
    F_math_bits_OnesCount64 ((val [d0, d1, d2, d3, d4, d5, d6, d7] : Nat) : Int) = some ((c4 d0 + c4 d1 + c4 d2 + c4 d3 + c4 d4 + c4 d5 + c4 d6 + c4 d7 : Nat) : Int) := by
  have hall : ∀ d ∈ [d0, d1, d2, d3, d4, d5, d6, d7], d < 16 := by
    intro d hd
    simp only [List.mem_cons, List.not_mem_nil, or_false] at hd
    rcases hd with rfl | rfl | rfl | rfl | rfl | rfl | rfl | rfl <;> assumption
  have hA := stA [d0, d1, d2, d3, d4, d5, d6, d7] 16 (by simp) hall
  have hallA : ∀ d ∈ [d0, d1, d2, d3, d4, d5, d6, d7].map a4, d < 16 := by
    intro d hd
    obtain ⟨e, he, rfl⟩ := List.mem_map.1 hd
    exact (a4_lt ⟨e, hall e he⟩).1
  have hB := stB ([d0, d1, d2, d3, d4, d5, d6, d7].map a4) 16 (by simp) hallA
  have hx := val_lt h0 h1 h2 h3 h4 h5 h6 h7
  have hAlt : val ([d0, d1, d2, d3, d4, d5, d6, d7].map a4) < 4294967296 := val_lt (a4_lt ⟨d0, h0⟩).1 (a4_lt ⟨d1, h1⟩).1 (a4_lt ⟨d2, h2⟩).1 (a4_lt ⟨d3, h3⟩).1 (a4_lt ⟨d4, h4⟩).1 (a4_lt ⟨d5, h5⟩).1 (a4_lt ⟨d6, h6⟩).1 (a4_lt ⟨d7, h7⟩).1
  have m5 : mskN 5 16 = 6148914691236517205 := by decide
  have m3 : mskN 3 16 = 3689348814741910323 := by decide
  rw [m5] at hA
  rw [m3] at hB
  have n0 : c4 d0 ≤ 4 := (a4_lt ⟨d0, h0⟩).2.1
  have n1 : c4 d1 ≤ 4 := (a4_lt ⟨d1, h1⟩).2.1
  have n2 : c4 d2 ≤ 4 := (a4_lt ⟨d2, h2⟩).2.1
  have n3 : c4 d3 ≤ 4 := (a4_lt ⟨d3, h3⟩).2.1
  have n4 : c4 d4 ≤ 4 := (a4_lt ⟨d4, h4⟩).2.1
  have n5 : c4 d5 ≤ 4 := (a4_lt ⟨d5, h5⟩).2.1
  have n6 : c4 d6 ≤ 4 := (a4_lt ⟨d6, h6⟩).2.1
  have n7 : c4 d7 ≤ 4 := (a4_lt ⟨d7, h7⟩).2.1
  have hBv : val (([d0, d1, d2, d3, d4, d5, d6, d7].map a4).map b4) = c4 d0 + 16 * (c4 d1 + 16 * (c4 d2 + 16 * (c4 d3 + 16 * (c4 d4 + 16 * (c4 d5 + 16 * (c4 d6 + 16 * c4 d7)))))) := by
    show c4 d0 + 16 * (c4 d1 + 16 * (c4 d2 + 16 * (c4 d3 + 16 * (c4 d4 + 16 * (c4 d5 + 16 * (c4 d6 + 16 * (c4 d7 + 16 * 0))))))) = _
    rw [Nat.mul_zero, Nat.add_zero]
  have hBlt := val_lt (Nat.lt_of_le_of_lt n0 (by decide)) (Nat.lt_of_le_of_lt n1 (by decide)) (Nat.lt_of_le_of_lt n2 (by decide)) (Nat.lt_of_le_of_lt n3 (by decide)) (Nat.lt_of_le_of_lt n4 (by decide)) (Nat.lt_of_le_of_lt n5 (by decide)) (Nat.lt_of_le_of_lt n6 (by decide)) (Nat.lt_of_le_of_lt n7 (by decide))
  have hBe : val [c4 d0, c4 d1, c4 d2, c4 d3, c4 d4, c4 d5, c4 d6, c4 d7] = val (([d0, d1, d2, d3, d4, d5, d6, d7].map a4).map b4) := rfl
  rw [hBe] at hBlt
  rw [ones_staged, pA_eq hx hAlt hA, pB_eq hAlt hBlt hB, pC_eq hBlt (hC_eq n0 n1 n2 n3 n4 n5 n6 n7 hBv)]
  have e8 : ∀ {a b : Nat}, a ≤ 4 → b ≤ 4 → a + b ≤ 8 := fun h h' => Nat.add_le_add h h'
  obtain ⟨s1, s2, s3, s4, s5⟩ := sum_eq (e8 n0 n1) (e8 n2 n3) (e8 n4 n5) (e8 n6 n7) rfl rfl rfl rfl
  rw [pD_eq s2, pE_eq s3, pF_eq s4, pG_eq s5, s1]
  simp only [Nat.add_assoc]
def setW (x : Nat) (n : Nat) : List Nat := (List.range n).filter fun k => x.testBit k
theorem c4_eq : ∀ d : Fin 16, (setW d.val 4).length = c4 d.val := by decide
theorem setW_split (x n : Nat) : (setW x (n + 4)).length = c4 (x % 16) + (setW (x / 16) n).length := by
  rw [← c4_eq ⟨x % 16, Nat.mod_lt _ (by decide)⟩]
  unfold setW
  rw [show n + 4 = n + 1 + 1 + 1 + 1 from rfl, List.range_succ_eq_map, List.range_succ_eq_map, List.range_succ_eq_map, List.range_succ_eq_map]
  simp only [List.map_cons, List.map_map]
  have hlow : ∀ k : Nat, k < 4 → x.testBit k = (x % 16).testBit k := fun k hk => by
    rw [show (16 : Nat) = 2 ^ 4 from rfl, Nat.testBit_mod_two_pow]
    simp [hk]
  have hhigh : ((List.range n).map (Nat.succ ∘ Nat.succ ∘ Nat.succ ∘ Nat.succ)).filter (fun k => x.testBit k) = ((List.range n).filter fun k => (x / 16).testBit k).map (Nat.succ ∘ Nat.succ ∘ Nat.succ ∘ Nat.succ) := by
    rw [List.filter_map]
    congr 1
    apply List.filter_congr
    intro k _
    show x.testBit (k + 4) = (x / 16).testBit k
    rw [Nat.testBit_add]
  have hr4 : List.range 4 = [0, 1, 2, 3] := by decide
  rw [hr4]
  simp only [List.filter_cons]
  rw [show Nat.succ 0 = 1 from rfl, show Nat.succ 1 = 2 from rfl, show Nat.succ 2 = 3 from rfl]
  rw [hlow 0 (by decide), hlow 1 (by decide), hlow 2 (by decide), hlow 3 (by decide)]
  have hhigh' := congrArg List.length hhigh
  rw [List.length_map] at hhigh'
  cases (x % 16).testBit 0 <;> cases (x % 16).testBit 1 <;> cases (x % 16).testBit 2 <;> cases (x % 16).testBit 3 <;> simp [hhigh'] <;> omega
theorem ones_eq {x : Nat} (hx : x < 4294967296) : F_math_bits_OnesCount64 (x : Int) = some (((setW x 32).length : Nat) : Int) := by
  have hv : x = val [x % 16, x / 16 % 16, x / 16 / 16 % 16, x / 16 / 16 / 16 % 16, x / 16 / 16 / 16 / 16 % 16, x / 16 / 16 / 16 / 16 / 16 % 16, x / 16 / 16 / 16 / 16 / 16 / 16 % 16, x / 16 / 16 / 16 / 16 / 16 / 16 / 16 % 16] := by
    simp only [val]; omega
  have hm : ∀ y : Nat, y % 16 < 16 := fun y => Nat.mod_lt _ (by decide)
  have h := ones_val (hm x) (hm (x / 16)) (hm (x / 16 / 16)) (hm (x / 16 / 16 / 16)) (hm (x / 16 / 16 / 16 / 16)) (hm (x / 16 / 16 / 16 / 16 / 16)) (hm (x / 16 / 16 / 16 / 16 / 16 / 16)) (hm (x / 16 / 16 / 16 / 16 / 16 / 16 / 16))
  rw [← hv] at h
  rw [h, setW_split x 28, setW_split _ 24, setW_split _ 20, setW_split _ 16, setW_split _ 12, setW_split _ 8, setW_split _ 4, setW_split _ 0]
  rw [show (setW (x / 16 / 16 / 16 / 16 / 16 / 16 / 16 / 16) 0).length = 0 from rfl]
  congr 2
  omega
theorem tb0_small : ∀ (x : Fin 32) (b : Fin 10), ((bits .and .i64 (shrK .i64 (x.val : Int) (b.val : Int)) 1) == 0) = !x.val.testBit b.val := by decide +kernel
theorem tb0 {x b : Nat} (hx : x < 32) (hb : b < 10) : ((bits .and .i64 (shrK .i64 (x : Int) (b : Int)) 1) == 0) = !x.testBit b := tb0_small ⟨x, hx⟩ ⟨b, hb⟩
def NOk (n : Nat) (l : List Nat) : Prop := l.length = n ∧ ∀ x ∈ l, x < 2 ^ n
theorem cxN {l : List Nat} {n a b : Nat} (hl : NOk n l) (hn : n ≤ 5) (ha : a < n) (hb : b < n) : ∃ l', NOk n l' ∧ F_spec_l12CX (TLinear.mk (cI l)) (a : Int) (b : Int) = some (TLinear.mk (cI l')) ∧
    ∃ x y : Nat, getI (cI l) (b : Int) = some (x : Int) ∧ getI (cI l) (a : Int) = some (y : Int) ∧ (cI l).set ((b : Int)).toNat (bits .xor .i64 (x : Int) (y : Int)) = cI l' := by
  have h32 := pow32 hn
  obtain ⟨x, hx⟩ : ∃ v, l[b]? = some v := ⟨_, List.getElem?_eq_getElem (show b < l.length by have := hl.1; omega)⟩
  obtain ⟨y, hy⟩ : ∃ v, l[a]? = some v := ⟨_, List.getElem?_eq_getElem (show a < l.length by have := hl.1; omega)⟩
  have hx2 := hl.2 _ (List.mem_of_getElem? hx)
  have hy2 := hl.2 _ (List.mem_of_getElem? hy)
  have hset : (cI l).set ((b : Int)).toNat (bits .xor .i64 (x : Int) (y : Int)) = cI (l.set b (x ^^^ y)) := by
    rw [xor_nat (by omega) (by omega), Int.toNat_natCast, cI_set]
  refine ⟨l.set b (x ^^^ y), ⟨by rw [List.length_set]; exact hl.1, fun z hz => ?_⟩, ?_, x, y, cI_get hx, cI_get hy, hset⟩
  · rcases List.mem_or_eq_of_mem_set hz with hz | rfl
    · exact hl.2 z hz
    · exact Nat.xor_lt_two_pow hx2 hy2
  · rw [cx_eq (by rw [cI_len]; have := hl.1; omega) (cI_get hx) (cI_get hy), hset]
def GsOk (n : Nat) (out : List TGate) : Prop := ∀ g ∈ out, ∃ a b : Nat, a < n ∧ b < n ∧ g = TGate.mk 9 (a : Int) (b : Int)
theorem GsOk.snoc {n : Nat} {out : List TGate} (h : GsOk n out) {a b : Nat} (ha : a < n) (hb : b < n) : GsOk n (out ++ [TGate.mk 9 (a : Int) (b : Int)]) := fun g hg => by
  rcases List.mem_append.1 hg with hg | hg
  · exact h g hg
  · exact ⟨a, b, ha, hb, by simpa using hg⟩
theorem elimN {l : List Nat} {n a b : Nat} {out : List TGate} (ho : out.length ≤ 1000) {x y : Nat} {l' : List Nat} (hx : getI (cI l) (b : Int) = some (x : Int)) (hy : getI (cI l) (a : Int) = some (y : Int))
    (hs : (cI l).set ((b : Int)).toNat (bits .xor .i64 (x : Int) (y : Int)) = cI l') : F_impl_eliminated_1 (a : Int) (b : Int) (cI l) out = some (cI l', out ++ [TGate.mk 9 (a : Int) (b : Int)]) := by
  unfold F_impl_eliminated_1
  rw [hx, hy]
  simp only [Option.bind_some]
  rw [chk_t (by omega), hs]
def EOk (n b : Nat) (s : List Int × List TGate) : Prop := ∃ l, s.1 = cI l ∧ NOk n l ∧ GsOk n s.2 ∧ s.2.length ≤ b
theorem EOk.mono {n b b' : Nat} {s : List Int × List TGate} (h : EOk n b s) (hb : b ≤ b') : EOk n b' s := by
  obtain ⟨l, h1, h2, h3, h4⟩ := h
  exact ⟨l, h1, h2, h3, by omega⟩
theorem or_i {a b : Nat} (ha : a < 9223372036854775808) (hb : b < 9223372036854775808) : bits .or .i64 (a : Int) (b : Int) = ((a ||| b : Nat) : Int) := by
  have h1 : a ||| b < 2 ^ 63 := Nat.or_lt_two_pow ha hb
  show IntKind.i64.wrap ((BitVec.ofInt 64 (a : Int) ||| BitVec.ofInt 64 (b : Int)).toNat : Int) = _
  have e1 : BitVec.ofInt 64 (a : Int) = BitVec.ofNat 64 a := rfl
  have e2 : BitVec.ofInt 64 (b : Int) = BitVec.ofNat 64 b := rfl
  rw [e1, e2, BitVec.toNat_or, BitVec.toNat_ofNat, BitVec.toNat_ofNat, Nat.mod_eq_of_lt (by omega), Nat.mod_eq_of_lt (by omega)]
  exact wrap_i64 ⟨by omega, by omega⟩
theorem shl_i {x k : Nat} (hk : k ≤ 60) (h : x * 2 ^ k < 9223372036854775808) : shlK .i64 (x : Int) (k : Int) = ((x * 2 ^ k : Nat) : Int) := by
  unfold shlK
  rw [Int.toNat_natCast, Nat.min_eq_left (show k ≤ IntKind.bits .i64 from by show k ≤ 64; omega)]
  have : (x : Int) * 2 ^ k = ((x * 2 ^ k : Nat) : Int) := by push_cast; rfl
  rw [this]
  exact wrap_i64 ⟨by omega, by omega⟩
theorem sp_ind {P : Nat → Prop} (h0 : P 0) : ∀ {L : List Nat}, (∀ v y, y ∈ L → P v → P (v ^^^ y)) → ∀ {v : Nat}, Sp L v → P v
  | [], _, v, h => by
    have : v = 0 := h
    rw [this]; exact h0
  | y :: t, hx, v, h => by
    have ht := fun v z hz => hx v z (List.mem_cons_of_mem _ hz)
    rcases h with h | h
    · exact sp_ind h0 ht h
    · have := hx _ y (List.mem_cons_self ..) (sp_ind h0 ht h)
      rwa [xx] at this
theorem sp_add {L : List Nat} {u w : Nat} (hu : Sp L u) (hw : Sp L w) : Sp L (u ^^^ w) :=
  sp_ind (P := fun w => Sp L (u ^^^ w)) (by rw [Nat.xor_zero]; exact hu) (fun v y hy hv => by rw [← Nat.xor_assoc]; exact sp_close hy hv) hw
theorem sp_lt {n : Nat} {L : List Nat} (hs : ∀ x ∈ L, x < 2 ^ n) {v : Nat} (h : Sp L v) : v < 2 ^ n :=
  sp_ind (P := fun v => v < 2 ^ n) (Nat.two_pow_pos n) (fun v y hy hv => Nat.xor_lt_two_pow hv (hs y hy)) h
/-- A number whose first bit is b. -/
def Lead (b v : Nat) : Prop := (∀ j, j < b → v.testBit j = false) ∧ v.testBit b = true
def Full (n : Nat) (l : List Nat) : Prop := ∀ b, b < n → ∃ v, Sp l v ∧ Lead b v
theorem full_all {n : Nat} {l : List Nat} (h : Full n l) : ∀ (d b v : Nat), b + d = n → v < 2 ^ n → (∀ j, j < b → v.testBit j = false) → (∀ x ∈ l, x < 2 ^ n) → Sp l v
  | 0, b, v, hb, hv, hz, _ => by
    have : v = 0 := Nat.eq_of_testBit_eq fun j => by
      rw [Nat.zero_testBit]
      rcases Nat.lt_or_ge j b with h1 | h1
      · exact hz j h1
      · exact tb_out hv (by omega)
    rw [this]; exact sp_zero l
  | d + 1, b, v, hb, hv, hz, hs => by
    cases hbit : v.testBit b with
    | false =>
      refine full_all h d (b + 1) v (by omega) hv (fun j hj => ?_) hs
      rcases Nat.lt_succ_iff_lt_or_eq.1 hj with h1 | rfl
      · exact hz j h1
      · exact hbit
    | true =>
      obtain ⟨w, w1, w2, w3⟩ := h b (by omega)
      have := full_all h d (b + 1) (v ^^^ w) (by omega) (Nat.xor_lt_two_pow hv (sp_lt hs w1)) (fun j hj => by
        rw [Nat.testBit_xor]
        rcases Nat.lt_succ_iff_lt_or_eq.1 hj with h1 | rfl
        · rw [hz j h1, w2 j h1]; rfl
        · rw [hbit, w3]; rfl) hs
      have := sp_add this w1
      rwa [xx] at this
theorem all_full {n : Nat} {l : List Nat} (h : ∀ v, v < 2 ^ n → Sp l v) : Full n l := fun b hb => by
  refine ⟨2 ^ b, h _ (Nat.pow_lt_pow_right (by decide) hb), fun j hj => ?_, ?_⟩
  · rw [Nat.testBit_two_pow]; simp; omega
  · rw [Nat.testBit_two_pow]; simp
/-- The program's rank: its loop beside the span. -/
def RankI (n : Nat) (l : List Nat) (b : Nat) (t : List Int × Int) : Prop := ∃ (m : List Nat) (r : Nat), t = (cI m, (r : Int)) ∧ m.length + r = n ∧ sm5 m ∧ (∀ v, Sp m v ↔ Sp l v ∧ ∀ j, j < b → v.testBit j = false) ∧
  r ≤ min b n ∧ (r = min b n → ∀ b', b' < min b n → ∃ v, Sp l v ∧ Lead b' v) ∧ (Full n l → r = min b n)
theorem rankI_round {n b : Nat} {l : List Nat} (hn : n ≤ 5) (hb : b < 10) (hs : ∀ x ∈ l, x < 2 ^ n) {t : List Int × Int} (h : RankI n l b t) : ∃ t', F_impl_rankOf_l1 b t = some t' ∧ RankI n l (b + 1) t' := by
  obtain ⟨m, r, rfl, hm, smm, hSp, hr, hA, hB⟩ := h
  obtain ⟨a', g1, g2⟩ := idx_find (l := m) (b := b) smm (by omega) hb
  unfold F_impl_rankOf_l1
  simp only
  rw [g1]
  simp only [Option.bind_some]
  rcases g2 with ⟨rfl, g2⟩ | ⟨p', x', rfl, hpx', hxb'⟩
  · have hno : ∀ v, Sp m v → v.testBit b = false := fun v hv => sp_none g2 hv
    refine ⟨_, rfl, m, r, rfl, hm, smm, fun v => ⟨fun hv => ⟨((hSp v).1 hv).1, fun j hj => ?_⟩, fun ⟨h1, h2⟩ => (hSp v).2 ⟨h1, fun j hj => h2 j (by omega)⟩⟩, by omega, fun he => ?_, fun hF => ?_⟩
    · rcases Nat.lt_succ_iff_lt_or_eq.1 hj with h1 | rfl
      · exact ((hSp v).1 hv).2 j h1
      · exact hno v hv
    · rcases Nat.lt_or_ge b n with h1 | h1
      · omega
      · rw [show min (b + 1) n = min b n by omega] at he ⊢
        exact hA he
    · rcases Nat.lt_or_ge b n with h1 | h1
      · obtain ⟨v, v1, v2, v3⟩ := hF b h1
        rw [hno v ((hSp v).2 ⟨v1, v2⟩)] at v3
        cases v3
      · rw [show min (b + 1) n = min b n by omega]; exact hB hF
  · have hx32' := smm x' (List.mem_of_getElem? hpx')
    have hpl' : p' < m.length := (List.getElem?_eq_some_iff.1 hpx').1
    have hxl := (hSp x').1 (sp_mem (List.mem_of_getElem? hpx'))
    have hbn : b < n := by
      rcases Nat.lt_or_ge b n with h1 | h1
      · exact h1
      · rw [tb_out (sp_lt hs hxl.1) h1] at hxb'; cases hxb'
    rw [decide_eq_false (show ¬ (p' : Int) < 0 by omega)]
    simp only [cond_false]
    rw [cI_get hpx']
    simp only [Option.bind_some]
    have hdel : F_slices_Delete_int_int (cI m) (p' : Int) (IntKind.i64.wrap ((p' : Int) + 1)) = some (cI (m.take p' ++ m.drop (p' + 1))) := by
      unfold F_slices_Delete_int_int
      rw [wrap_i64 (a := (p' : Int) + 1) ⟨by omega, by omega⟩, chk_t (by rw [cI_len]; omega)]
      have e : ((p' : Int) == (p' : Int) + 1) = false := beq_eq_false_iff_ne.2 (by omega)
      rw [e]
      simp only [cond_false]
      rw [chk_t (by omega)]
      have e2 : ((p' : Int) + 1).toNat = p' + 1 := by omega
      rw [Int.toNat_natCast, e2]
      unfold cI
      rw [List.map_append, List.map_take, List.map_drop]
    rw [hdel]
    simp only [Option.bind_some]
    generalize hm1 : m.take p' ++ m.drop (p' + 1) = m1
    have hmx : m = m.take p' ++ x' :: m.drop (p' + 1) := by
      have := List.getElem?_eq_some_iff.1 hpx'
      obtain ⟨h1, h2⟩ := this
      rw [← h2, List.getElem_cons_drop, List.take_append_drop]
    have mmem : ∀ y, y ∈ x' :: m1 ↔ y ∈ m := fun y => by
      rw [← hm1]
      conv => rhs; rw [hmx]
      simp only [List.mem_cons, List.mem_append]
      constructor
      · rintro (h | h | h)
        · exact .inr (.inl h)
        · exact .inl h
        · exact .inr (.inr h)
      · rintro (h | h | h)
        · exact .inr (.inl h)
        · exact .inl h
        · exact .inr (.inr h)
    have sm1 : sm5 m1 := fun y hy => smm y ((mmem y).1 (List.mem_cons_of_mem _ hy))
    have m1len : m1.length + 1 = m.length := by
      have := congrArg List.length hmx
      rw [← hm1]
      simp at this ⊢
      omega
    rw [cI_len, chk_t (by omega), rank_elim2 sm1 hx32' hb]
    simp only [Option.bind_some]
    rw [wrap_i64 (a := (r : Int) + 1) ⟨by omega, by omega⟩]
    have k2 : ∀ u, Sp (x' :: m1) u ↔ Sp m u := fun u => ⟨sp_sub (fun y hy => (mmem y).1 hy), sp_sub (fun y hy => (mmem y).2 hy)⟩
    refine ⟨_, rfl, m1.map (red b x'), r + 1, rfl, by simp; omega, fun y hy => ?_, fun v => ?_, by omega, fun he b' hb' => ?_, fun hF => ?_⟩
    · obtain ⟨z, hz, rfl⟩ := List.mem_map.1 hy
      exact red32 hx32' (sm1 z hz)
    · rw [sp_red hxb', k2, hSp]
      constructor
      · rintro ⟨⟨h1, h2⟩, h3⟩
        refine ⟨h1, fun j hj => ?_⟩
        rcases Nat.lt_succ_iff_lt_or_eq.1 hj with h4 | rfl
        · exact h2 j h4
        · exact h3
      · rintro ⟨h1, h2⟩
        exact ⟨⟨h1, fun j hj => h2 j (by omega)⟩, h2 b (by omega)⟩
    · by_cases hbb : b' = b
      · subst hbb; exact ⟨x', hxl.1, hxl.2, hxb'⟩
      · exact hA (by omega) b' (by omega)
    · have := hB hF; omega
theorem rank_full {l : List Nat} {n : Nat} (hl : l.length = n) (hn : n ≤ 5) (hs : ∀ x ∈ l, x < 2 ^ n) : ∃ r : Nat, F_impl_rankOf (cI l) = some (r : Int) ∧ (r = n ↔ Full n l) := by
  have h32 := pow32 hn
  have h0 : RankI n l 0 (cI l, 0) := ⟨l, 0, rfl, by omega, fun x hx => by have := hs x hx; omega, fun v => ⟨fun h => ⟨h, fun j hj => absurd hj (Nat.not_lt_zero _)⟩, fun h => h.1⟩, by omega, fun _ b' hb' => by omega, fun _ => by omega⟩
  obtain ⟨t, h1, m, r, rfl, h2, h3, h4, h5, h6, h7⟩ := forN_inv (f := F_impl_rankOf_l1) (fun b t => RankI n l b t) 10 0 _ h0 (fun b t _ hb h => rankI_round hn (by omega) hs h)
  refine ⟨r, ?_, fun h b hb => h6 (by omega) b (by omega), fun h => by have := h7 h; omega⟩
  unfold F_impl_rankOf F_slices_Clone_int_int
  rw [chk_t (by rw [cI_len]; omega)]
  simp only [Option.bind_some]
  rw [h1]; rfl
theorem poly_full {p : TPhasePoly} {n : Nat} {l : List Nat} (h : PolyOk p n l) : Full n l := by
  obtain ⟨_, hl, hs, hr, _, _⟩ := h.2.2.1
  have hn := h.1.2.1
  have h32 := pow32 hn
  obtain ⟨r, r1, r2⟩ := rank_both (l := l) (by omega) (fun x hx => by have := hs x hx; omega)
  obtain ⟨r', e1, e2⟩ := rank_full hl hn hs
  rw [hr] at r1
  rw [e1] at r2
  cases r1
  have := Option.some.inj r2
  exact e2.1 (by omega)
theorem lin_valid {l : List Nat} {n : Nat} (hl : l.length = n) (h1 : 1 ≤ n) (hn : n ≤ 5) (hs : ∀ x ∈ l, x < 2 ^ n) (hF : Full n l) : F_impl_IsValidLinear (TLinear.mk (cI l)) = some true := by
  obtain ⟨r, e1, e2⟩ := rank_full hl hn hs
  have hr := e2.2 hF
  subst hr
  have hcl : (cI l).length = r := by rw [cI_len]; exact hl
  have hq : 1 ≤ ((cI l).length : Int) ∧ ((cI l).length : Int) ≤ 5 := by omega
  obtain ⟨s1, s2, s3, s4, s5, s6⟩ := shl_small hq
  unfold F_impl_IsValidLinear
  rw [in_eq]
  simp only [Option.bind_some]
  rw [decide_eq_true hq.1, decide_eq_true hq.2]
  simp only [Bool.and_self, Bool.true_and, gb, cond_true]
  rw [contains_eqI (p := fun x => !(decide (0 ≤ x) && decide (x ≤ ((2 ^ (((cI l).length : Int)).toNat : Nat) : Int) - 1))) (by omega) (fun x => by
    unfold F_impl_IsValidLinear_1
    rw [chk_t (by omega), s3, s6, in_eq]; rfl)]
  simp only [Option.bind_some, any_not, Bool.not_not]
  have hall : ((cI l).all fun x => decide (0 ≤ x) && decide (x ≤ ((2 ^ (((cI l).length : Int)).toNat : Nat) : Int) - 1)) = true := by
    rw [List.all_eq_true]
    intro x hx
    obtain ⟨y, hy, rfl⟩ := List.mem_map.1 hx
    have := hs y hy
    rw [hcl, Int.toNat_natCast]
    simp only [Bool.and_eq_true, decide_eq_true_eq]
    omega
  rw [hall]
  simp only [cond_true]
  rw [e1]
  simp only [Option.bind_some, hcl, beq_self_eq_true, Bool.and_self]
theorem thr_fold (l : List Nat) (a b : Nat) : ∀ (r : List Nat) (x y : Nat), r.foldl (fun x k => if (a ^^^ b).testBit k then x ^^^ l.getD k 0 else x) (x ^^^ y) = r.foldl (fun x k => if a.testBit k then x ^^^ l.getD k 0 else x) x ^^^ r.foldl (fun x k => if b.testBit k then x ^^^ l.getD k 0 else x) y
  | [], _, _ => rfl
  | k :: t, x, y => by
    simp only [List.foldl_cons]
    rw [← thr_fold l a b t]
    congr 1
    rw [Nat.testBit_xor]
    generalize l.getD k 0 = z
    cases a.testBit k <;> cases b.testBit k <;> simp
    · rw [Nat.xor_assoc]
    · rw [xr]
    · rw [xr x z (y ^^^ z), ← Nat.xor_assoc, xx]
theorem thr_xor (l : List Nat) (a b : Nat) : thr l (a ^^^ b) = thr l a ^^^ thr l b := by
  have := thr_fold l a b (List.range 5) 0 0
  rw [Nat.xor_self] at this
  exact this
theorem thr_zero (l : List Nat) : thr l 0 = 0 := by
  have := thr_xor l 0 0
  rw [Nat.xor_self, Nat.xor_self] at this
  exact this
theorem thr_two (l : List Nat) {i : Nat} (hi : i < 5) : thr l (2 ^ i) = l.getD i 0 := by
  have : i = 0 ∨ i = 1 ∨ i = 2 ∨ i = 3 ∨ i = 4 := by omega
  rcases this with rfl | rfl | rfl | rfl | rfl <;> simp [thr, List.range, List.range.loop, Nat.testBit, Nat.shiftRight_eq_div_pow]
def idn (n : Nat) : List Nat := (List.range n).map fun i => 2 ^ i
theorem idn_ok (n : Nat) : NOk n (idn n) := ⟨by simp [idn], fun x hx => by
  obtain ⟨i, hi, rfl⟩ := List.mem_map.1 hx
  exact Nat.pow_lt_pow_right (by decide) (List.mem_range.1 hi)⟩
theorem idn_get {n i : Nat} (hi : i < n) : (idn n).getD i 0 = 2 ^ i := by
  rw [List.getD_eq_getElem?_getD, idn, List.getElem?_map, List.getElem?_range hi]; rfl
theorem getD_nat {l : List Nat} {i : Nat} (hi : i < l.length) : l[i]? = some (l.getD i 0) := by
  rw [List.getD_eq_getElem?_getD, List.getElem?_eq_getElem hi]; rfl
theorem nat_ext {l l' : List Nat} (hl : l.length = l'.length) (h : ∀ i, i < l.length → l.getD i 0 = l'.getD i 0) : l = l' := by
  apply List.ext_getElem? 
  intro i
  by_cases hi : i < l.length
  · rw [getD_nat hi, getD_nat (by omega), h i hi]
  · rw [List.getElem?_eq_none (by omega), List.getElem?_eq_none (by omega)]
theorem map_getD {f : Nat → Nat} {l : List Nat} {i : Nat} (hi : i < l.length) : (l.map f).getD i 0 = f (l.getD i 0) := by
  rw [List.getD_eq_getElem?_getD, List.getElem?_map, getD_nat hi]; rfl
theorem idn_map {l : List Nat} {n : Nat} (hl : l.length = n) (hn : n ≤ 5) : (idn n).map (thr l) = l := by
  refine nat_ext (by rw [List.length_map, (idn_ok n).1, hl]) fun i hi => ?_
  rw [List.length_map, (idn_ok n).1] at hi
  rw [map_getD (by rw [(idn_ok n).1]; exact hi), idn_get hi, thr_two l (by omega)]
theorem idn_full (n : Nat) : Full n (idn n) := fun b hb => by
  refine ⟨2 ^ b, sp_mem (List.mem_map.2 ⟨b, List.mem_range.2 hb, rfl⟩), fun j hj => ?_, ?_⟩
  · rw [Nat.testBit_two_pow]; simp; omega
  · rw [Nat.testBit_two_pow]; simp
theorem sp_span {L L' : List Nat} (h : ∀ y ∈ L, Sp L' y) {v : Nat} (hv : Sp L v) : Sp L' v :=
  sp_ind (P := fun v => Sp L' v) (sp_zero L') (fun _ y hy hv => sp_add hv (h y hy)) hv
theorem full_span {n : Nat} {L L' : List Nat} (h : ∀ y ∈ L, Sp L' y) (hF : Full n L) : Full n L' := fun b hb => by
  obtain ⟨v, h1, h2⟩ := hF b hb
  exact ⟨v, sp_span h h1, h2⟩
theorem full_comp {l l2 : List Nat} {n : Nat} (hl : NOk n l) (hl2 : NOk n l2) (hn : n ≤ 5) (hF : Full n l) (hF2 : Full n l2) : Full n (l2.map (thr l)) := by
  refine all_full fun v hv => ?_
  have h1 := full_all hF n 0 v (by omega) hv (fun j hj => absurd hj (Nat.not_lt_zero _)) hl.2
  obtain ⟨c, hc, rfl⟩ := sp_ind (P := fun v => ∃ c, c < 2 ^ n ∧ thr l c = v) ⟨0, Nat.two_pow_pos n, thr_zero l⟩ (fun v y hy ⟨c, hc, hv⟩ => by
    obtain ⟨i, hi⟩ := List.mem_iff_getElem?.1 hy
    have hi2 := (List.getElem?_eq_some_iff.1 hi).1
    rw [hl.1] at hi2
    refine ⟨c ^^^ 2 ^ i, Nat.xor_lt_two_pow hc (Nat.pow_lt_pow_right (by decide) hi2), ?_⟩
    rw [thr_xor, hv, thr_two l (by omega), List.getD_eq_getElem?_getD, hi]; rfl) h1
  have h2 := full_all hF2 n 0 c (by omega) hc (fun j hj => absurd hj (Nat.not_lt_zero _)) hl2.2
  refine sp_ind (P := fun c => Sp (l2.map (thr l)) (thr l c)) (by rw [thr_zero]; exact sp_zero _) (fun v y hy hv => ?_) h2
  rw [thr_xor]
  exact sp_close (List.mem_map.2 ⟨y, hy, rfl⟩) hv
def cxL (x : List Nat) (a b : Nat) : List Nat := x.set b (x.getD b 0 ^^^ x.getD a 0)
def cxG (x : List Nat) (g : TGate) : List Nat := cxL x g.A.toNat g.B.toNat
def cxs (gs : List TGate) (x : List Nat) : List Nat := gs.foldl cxG x
theorem cxs_snoc (gs : List TGate) (a b : Nat) (x : List Nat) : cxs (gs ++ [TGate.mk 9 (a : Int) (b : Int)]) x = cxL (cxs gs x) a b := by
  unfold cxs
  rw [List.foldl_append]; rfl
theorem cxL_len (x : List Nat) (a b : Nat) : (cxL x a b).length = x.length := by simp [cxL]
theorem cxL_get {x : List Nat} {a b : Nat} (hb : b < x.length) (j : Nat) : (cxL x a b).getD j 0 = if j = b then x.getD b 0 ^^^ x.getD a 0 else x.getD j 0 := by
  unfold cxL
  rw [List.getD_eq_getElem?_getD, List.getElem?_set]
  by_cases h : b = j
  · subst h; rw [if_pos rfl, if_pos hb, if_pos rfl]; rfl
  · rw [if_neg h, if_neg (Ne.symm h), ← List.getD_eq_getElem?_getD]
theorem cxL_ok {n : Nat} {x : List Nat} (h : NOk n x) (a b : Nat) : NOk n (cxL x a b) := ⟨by rw [cxL_len]; exact h.1, fun z hz => by
  rcases List.mem_or_eq_of_mem_set hz with hz | rfl
  · exact h.2 z hz
  · exact Nat.xor_lt_two_pow (getD_lt h.2 _) (getD_lt h.2 _)⟩
theorem cxL_map {l x : List Nat} {a b : Nat} (ha : a < x.length) (hb : b < x.length) : (cxL x a b).map (thr l) = cxL (x.map (thr l)) a b := by
  refine nat_ext (by simp [cxL]) fun i hi => ?_
  rw [List.length_map, cxL_len] at hi
  rw [map_getD (by rw [cxL_len]; exact hi), cxL_get hb, cxL_get (by rw [List.length_map]; exact hb), map_getD hb, map_getD ha]
  split
  · rw [thr_xor]
  · rw [map_getD hi]
theorem cxM {l : List Nat} {n a b : Nat} (hl : NOk n l) (hn : n ≤ 5) (ha : a < n) (hb : b < n) : getI (cI l) (b : Int) = some ((l.getD b 0 : Nat) : Int) ∧ getI (cI l) (a : Int) = some ((l.getD a 0 : Nat) : Int) ∧
    (cI l).set ((b : Int)).toNat (bits .xor .i64 ((l.getD b 0 : Nat) : Int) ((l.getD a 0 : Nat) : Int)) = cI (cxL l a b) := by
  have h32 := pow32 hn
  have h1 := getD_lt hl.2 b
  have h2 := getD_lt hl.2 a
  refine ⟨cI_get (getD_nat (by rw [hl.1]; exact hb)), cI_get (getD_nat (by rw [hl.1]; exact ha)), ?_⟩
  rw [xor_nat (by omega) (by omega), Int.toNat_natCast, cI_set]; rfl
theorem full_cx {n a b : Nat} {l : List Nat} (hl : l.length = n) (ha : a < n) (hb : b < n) (hab : a ≠ b) (hF : Full n l) : Full n (cxL l a b) := by
  refine full_span (fun y hy => ?_) hF
  have hmem : ∀ j, j < n → (cxL l a b).getD j 0 ∈ cxL l a b := fun j hj => List.mem_of_getElem? (getD_nat (by rw [cxL_len, hl]; exact hj))
  obtain ⟨j, hj⟩ := List.mem_iff_getElem?.1 hy
  have hj2 := (List.getElem?_eq_some_iff.1 hj).1
  have hy2 : y = l.getD j 0 := by rw [List.getD_eq_getElem?_getD, hj]; rfl
  by_cases hjb : j = b
  · have h1 := sp_mem (hmem b hb)
    have h2 := hmem a ha
    rw [cxL_get (by omega), if_neg hab] at h2
    have := sp_close h2 h1
    rw [cxL_get (by omega), if_pos rfl, xx] at this
    rw [hy2, hjb]; exact this
  · have h1 := sp_mem (hmem j (by omega))
    rw [cxL_get (by omega), if_neg hjb] at h1
    rw [hy2]; exact h1
def GsN (n : Nat) (out : List TGate) : Prop := ∀ g ∈ out, ∃ a b : Nat, a < n ∧ b < n ∧ a ≠ b ∧ g = TGate.mk 9 (a : Int) (b : Int)
theorem GsN.snoc {n : Nat} {out : List TGate} (h : GsN n out) {a b : Nat} (ha : a < n) (hb : b < n) (hab : a ≠ b) : GsN n (out ++ [TGate.mk 9 (a : Int) (b : Int)]) := fun g hg => by
  rcases List.mem_append.1 hg with hg | hg
  · exact h g hg
  · exact ⟨a, b, ha, hb, hab, by simpa using hg⟩
def ColU (l : List Nat) (n k : Nat) : Prop := ∀ i j, i < n → j < k → (l.getD i 0).testBit j = decide (i = j)
theorem colU_cx {l : List Nat} {n k a b : Nat} (hl : l.length = n) (ha : a < n) (hb : b < n) (hka : k ≤ a) (h : ColU l n k) : ColU (cxL l a b) n k := fun i j hi hj => by
  rw [cxL_get (by omega)]
  split
  · rename_i e
    subst e
    rw [Nat.testBit_xor, h i j hi hj, h a j ha hj, decide_eq_false (show ¬ a = j by omega)]
    simp
  · exact h i j hi hj
def fx : Nat → (Nat → Bool) → Bool
  | 0, _ => false
  | n + 1, f => (fx n f).xor (f n)
theorem fx_zero : ∀ {n : Nat} {f : Nat → Bool}, (∀ j, j < n → f j = false) → fx n f = false
  | 0, _, _ => rfl
  | n + 1, f, h => by
    show (fx n f).xor (f n) = false
    rw [fx_zero (fun j hj => h j (by omega)), h n (by omega)]; rfl
theorem fx_xor (f g : Nat → Bool) : ∀ n, fx n (fun j => (f j).xor (g j)) = (fx n f).xor (fx n g)
  | 0 => rfl
  | n + 1 => by
    show (fx n fun j => (f j).xor (g j)).xor ((f n).xor (g n)) = ((fx n f).xor (f n)).xor ((fx n g).xor (g n))
    rw [fx_xor f g n]
    cases fx n f <;> cases fx n g <;> cases f n <;> cases g n <;> rfl
theorem fx_one {f : Nat → Bool} {s : Nat} : ∀ {n : Nat}, s < n → (∀ j, j < n → j ≠ s → f j = false) → fx n f = f s
  | 0, h, _ => absurd h (Nat.not_lt_zero _)
  | n + 1, h, hz => by
    show (fx n f).xor (f n) = f s
    by_cases hs : s = n
    · subst hs
      rw [fx_zero (fun j hj => hz j (by omega) (by omega))]
      simp
    · rw [fx_one (show s < n by omega) (fun j hj hne => hz j (by omega) hne), hz n (by omega) (fun h => hs h.symm)]
      simp
/-- There is a row to take. -/
theorem pivot {l : List Nat} {n k : Nat} (hl : l.length = n) (hF : Full n l) (hk : k < n) (hc : ColU l n k) (hz : ∀ i, k ≤ i → i < n → (l.getD i 0).testBit k = false) : False := by
  obtain ⟨v, v1, v2, v3⟩ := hF k hk
  have := sp_ind (P := fun v => v.testBit k = fx k (fun j => v.testBit j && (l.getD j 0).testBit k)) (by rw [Nat.zero_testBit, fx_zero (fun j _ => by rw [Nat.zero_testBit]; rfl)]) (fun v y hy hv => by
    obtain ⟨i, hi⟩ := List.mem_iff_getElem?.1 hy
    have hi2 := (List.getElem?_eq_some_iff.1 hi).1
    have hy2 : y = l.getD i 0 := by rw [List.getD_eq_getElem?_getD, hi]; rfl
    have hrow : y.testBit k = fx k (fun j => y.testBit j && (l.getD j 0).testBit k) := by
      by_cases hik : i < k
      · rw [fx_one (s := i) hik (fun j hj hne => by rw [hy2, hc i j (by omega) hj, decide_eq_false (Ne.symm hne)]; rfl), hy2, hc i i (by omega) hik, decide_eq_true rfl]; rfl
      · rw [fx_zero (fun j hj => by rw [hy2, hc i j (by omega) hj, decide_eq_false (show ¬ i = j by omega)]; rfl), hy2]
        exact hz i (by omega) (by omega)
    have e : (fun j => (v ^^^ y).testBit j && (l.getD j 0).testBit k) = fun j => (v.testBit j && (l.getD j 0).testBit k).xor (y.testBit j && (l.getD j 0).testBit k) := by
      funext j
      rw [Nat.testBit_xor]
      cases v.testBit j <;> cases y.testBit j <;> cases (l.getD j 0).testBit k <;> rfl
    rw [Nat.testBit_xor, hv, hrow, e, fx_xor]) v1
  rw [v3, fx_zero (fun j hj => by rw [v2 j hj]; rfl)] at this
  cases this
/-- Rows that the gates so far have made of the first ones. -/
def El (n k : Nat) (l0 : List Nat) (b : Nat) (P : List Nat → Prop) (s : List Int × List TGate) : Prop := ∃ l, s.1 = cI l ∧ NOk n l ∧ GsN n s.2 ∧ s.2.length ≤ b ∧ l = cxs s.2 l0 ∧ Full n l ∧ ColU l n k ∧ P l
theorem El.mono {n k b b' : Nat} {l0 : List Nat} {P P' : List Nat → Prop} {s : List Int × List TGate} (h : El n k l0 b P s) (hb : b ≤ b') (hP : ∀ l, P l → P' l) : El n k l0 b' P' s := by
  obtain ⟨l, h1, h2, h3, h4, h5, h6, h7, h8⟩ := h
  exact ⟨l, h1, h2, h3, by omega, h5, h6, h7, hP l h8⟩
theorem el_l2 {n k b : Nat} {l0 : List Nat} (hn : n ≤ 5) (hk : k < n) (hb : b ≤ 900) {r : List Int} (hr : r.length = n) (s : List Int × List TGate × Int)
    (h : ∃ i : Nat, s.2.2 = (i : Int) ∧ k + 1 ≤ i ∧ i ≤ n ∧ El n k l0 (b + i) (fun l => (∀ i', k < i' → i' < i → (l.getD i' 0).testBit k = false) ∨ (l.getD k 0).testBit k = true) (s.1, s.2.1)) :
    (∃ s', F_impl_eliminated_l2 r k s = some (.nx s') ∧ (∃ i : Nat, s'.2.2 = (i : Int) ∧ k + 1 ≤ i ∧ i ≤ n ∧ El n k l0 (b + i) (fun l => (∀ i', k < i' → i' < i → (l.getD i' 0).testBit k = false) ∨ (l.getD k 0).testBit k = true) (s'.1, s'.2.1)) ∧ n - s'.2.2.toNat < n - s.2.2.toNat) ∨
    (∃ s', F_impl_eliminated_l2 r k s = some (.br s') ∧ El n k l0 (b + n) (fun l => (l.getD k 0).testBit k = true) (s'.1, s'.2.1)) ∨ ∃ q : List Int × List TGate, F_impl_eliminated_l2 r k s = some (.rt q) ∧ False := by
  obtain ⟨R1, o1, i1⟩ := s
  obtain ⟨i, hi1, hki, hin, l, h1, h2, h3, h4, h5, h6, h7, h8⟩ := h
  simp only at hi1 h1 h3 h4 h5 hki hin
  subst hi1 h1
  have h32 := pow32 hn
  have hkx : getI (cI l) (k : Int) = some ((l.getD k 0 : Nat) : Int) := cI_get (getD_nat (by rw [h2.1]; exact hk))
  have hkx2 := getD_lt h2.2 k
  unfold F_impl_eliminated_l2
  simp only
  rw [hr]
  by_cases hi : i < n
  · rw [decide_eq_true (show (i : Int) < (n : Int) by omega), hkx]
    simp only [gb, cond_true, Option.bind_some, Bool.true_and]
    rw [chk_t (fun _ => by omega), tb0 (by omega) (by omega)]
    cases hb1 : (l.getD k 0).testBit k with
    | true =>
      simp only [Bool.not_true, cond_false]
      exact .inr (.inl ⟨_, rfl, l, rfl, h2, h3, by simp only; omega, h5, h6, h7, hb1⟩)
    | false =>
      have h8 : ∀ i', k < i' → i' < i → (l.getD i' 0).testBit k = false := h8.resolve_right (fun e => by rw [hb1] at e; cases e)
      simp only [Bool.not_false, cond_true]
      have hix : getI (cI l) (i : Int) = some ((l.getD i 0 : Nat) : Int) := cI_get (getD_nat (by rw [h2.1]; exact hi))
      have hix2 := getD_lt h2.2 i
      rw [hix]
      simp only [Option.bind_some]
      rw [chk_t (by omega), tb (by omega) (by omega), wrap_i64 (a := (i : Int) + 1) ⟨by omega, by omega⟩]
      refine .inl ?_
      cases hb2 : (l.getD i 0).testBit k with
      | true =>
        obtain ⟨c3, c4, c5⟩ := cxM h2 hn hi hk
        simp only [cond_true]
        rw [elimN (n := n) (by omega) c3 c4 c5]
        simp only [Option.bind_some]
        first | rw [chk_t (by omega)] | skip
        refine ⟨_, rfl, ⟨i + 1, by simp only; omega, by omega, by omega, _, rfl, cxL_ok h2 _ _, h3.snoc hi hk (by omega), by simp only [List.length_append, List.length_singleton]; omega, ?_, full_cx h2.1 hi hk (by omega) h6, colU_cx h2.1 hi hk (by omega) h7, .inr ?_⟩, by simp only; omega⟩
        · simp only; rw [cxs_snoc, ← h5]
        · rw [cxL_get (by rw [h2.1]; exact hk), if_pos rfl, Nat.testBit_xor, hb1, hb2]; rfl
      | false =>
        simp only [cond_false, Option.bind_some]
        refine ⟨_, rfl, ⟨i + 1, by simp only; omega, by omega, by omega, l, rfl, h2, h3, by simp only; omega, h5, h6, h7, .inl fun i' a1 a2 => ?_⟩, by simp only; omega⟩
        rcases Nat.lt_succ_iff_lt_or_eq.1 a2 with a3 | rfl
        · exact h8 i' a1 a3
        · exact hb2
  · rw [decide_eq_false (show ¬ (i : Int) < (n : Int) by omega)]
    simp only [gb, cond_false, Option.bind_some, Bool.false_and]
    first | rw [chk_t (fun h => by cases h)] | skip
    refine .inr (.inl ⟨_, rfl, l, rfl, h2, h3, by simp only; omega, h5, h6, h7, ?_⟩)
    cases hb1 : (l.getD k 0).testBit k with
    | true => exact hb1
    | false =>
      have h8 : ∀ i', k < i' → i' < i → (l.getD i' 0).testBit k = false := h8.resolve_right (fun e => by rw [hb1] at e; cases e)
      refine (pivot h2.1 h6 hk h7 fun i' a1 a2 => ?_).elim
      rcases Nat.lt_or_ge k i' with a3 | a3
      · exact h8 i' a3 (by omega)
      · rw [show i' = k by omega]; exact hb1
theorem el_l3 {n k b i : Nat} {l0 : List Nat} (hn : n ≤ 5) (hk : k < n) (hb : b ≤ 900) (hi : i < n) {s : List Int × List TGate} (h : El n k l0 b (fun l => (l.getD k 0).testBit k = true ∧ ∀ i', i' < i → i' ≠ k → (l.getD i' 0).testBit k = false) s) :
    ∃ s', F_impl_eliminated_l3 k i s = some s' ∧ El n k l0 (b + 1) (fun l => (l.getD k 0).testBit k = true ∧ ∀ i', i' < i + 1 → i' ≠ k → (l.getD i' 0).testBit k = false) s' := by
  obtain ⟨R1, o1⟩ := s
  obtain ⟨l, h1, h2, h3, h4, h5, h6, h7, h8, h9⟩ := h
  simp only at h1 h3 h4 h5
  subst h1
  have h32 := pow32 hn
  have hix : getI (cI l) (i : Int) = some ((l.getD i 0 : Nat) : Int) := cI_get (getD_nat (by rw [h2.1]; exact hi))
  have hix2 := getD_lt h2.2 i
  unfold F_impl_eliminated_l3
  simp only
  by_cases hik : i = k
  · subst hik
    have e : ((i : Int) != (i : Int)) = false := by simp
    rw [e]
    simp only [gb, cond_false, Option.bind_some, Bool.false_and]
    first | rw [chk_t (fun h => by cases h)] | skip
    refine ⟨_, rfl, l, rfl, h2, h3, by simp only; omega, h5, h6, h7, h8, fun i' a1 a2 => h9 i' (by omega) a2⟩
  · have e : ((i : Int) != (k : Int)) = true := by simp; omega
    rw [e, hix]
    simp only [gb, cond_true, Option.bind_some, Bool.true_and]
    rw [chk_t (fun _ => by omega), tb (by omega) (by omega)]
    cases hb2 : (l.getD i 0).testBit k with
    | true =>
      obtain ⟨c3, c4, c5⟩ := cxM h2 hn hk hi
      simp only [cond_true]
      rw [elimN (n := n) (by omega) c3 c4 c5]
      simp only [Option.bind_some]
      first | rw [chk_t (by omega)] | skip
      refine ⟨_, rfl, _, rfl, cxL_ok h2 _ _, h3.snoc hk hi (by omega), by simp only [List.length_append, List.length_singleton]; omega, ?_, full_cx h2.1 hk hi (by omega) h6, colU_cx h2.1 hk hi (Nat.le_refl _) h7, ?_, fun i' a1 a2 => ?_⟩
      · simp only; rw [cxs_snoc, ← h5]
      · rw [cxL_get (by rw [h2.1]; exact hi), if_neg (by omega)]; exact h8
      · rw [cxL_get (by rw [h2.1]; exact hi)]
        split
        · rw [Nat.testBit_xor, hb2, h8]; rfl
        · exact h9 i' (by omega) a2
    | false =>
      simp only [cond_false, Option.bind_some]
      refine ⟨_, rfl, l, rfl, h2, h3, by simp only; omega, h5, h6, h7, h8, fun i' a1 a2 => ?_⟩
      rcases Nat.lt_succ_iff_lt_or_eq.1 a1 with a3 | rfl
      · exact h9 i' a3 a2
      · exact hb2
theorem el_l1 {n k b : Nat} {l0 : List Nat} (hn : n ≤ 5) (hk : k < n) (hb : b ≤ 800) {r : List Int} (hr : r.length = n) {s : List Int × List TGate} (h : El n k l0 b (fun _ => True) s) :
    ∃ s', F_impl_eliminated_l1 r k s = some s' ∧ El n (k + 1) l0 (b + 10) (fun _ => True) s' := by
  obtain ⟨R1, o1⟩ := s
  unfold F_impl_eliminated_l1
  simp only
  rw [wrap_i64 (a := (k : Int) + 1) ⟨by omega, by omega⟩]
  rcases whX_inv (f := F_impl_eliminated_l2 r k) _ _ (fun _ : List Int × List TGate => False) (fun s => n - s.2.2.toNat) (fun s hs => el_l2 (l0 := l0) (b := b) hn hk (by omega) hr s hs) fuel (R1, o1, (k : Int) + 1)
    ⟨k + 1, by simp only; omega, by omega, by omega, h.mono (by omega) (fun l _ => .inl fun i' a1 a2 => by omega)⟩ (fuelB (by omega)) with ⟨⟨R2, o2, i2⟩, e1, e2⟩ | ⟨r, _, hr⟩
  · rw [e1]
    simp only [Option.bind_some, orR]
    rw [chk_t (by omega), hr]
    obtain ⟨s, f1, f2⟩ := forN_inv (f := F_impl_eliminated_l3 k) (fun i s => El n k l0 (b + n + i) (fun l => (l.getD k 0).testBit k = true ∧ ∀ i', i' < i → i' ≠ k → (l.getD i' 0).testBit k = false) s) n 0 (R2, o2) (e2.mono (by omega) (fun l hl => ⟨hl, fun i' a => absurd a (Nat.not_lt_zero _)⟩)) (fun i s _ hi h2 => by
      obtain ⟨s', a1, a2⟩ := el_l3 (b := b + n + i) hn hk (by omega) (show i < n by omega) h2
      exact ⟨s', a1, a2.mono (by omega) (fun _ h => h)⟩)
    rw [f1]
    refine ⟨s, rfl, ?_⟩
    obtain ⟨l, h1, h2, h3, h4, h5, h6, h7, h8, h9⟩ := f2
    refine ⟨l, h1, h2, h3, by omega, h5, h6, fun i j hi hj => ?_, trivial⟩
    rcases Nat.lt_succ_iff_lt_or_eq.1 hj with a | rfl
    · exact h7 i j hi a
    · by_cases hij : i = j
      · subst hij; rw [h8, decide_eq_true rfl]
      · rw [h9 i (by omega) hij, decide_eq_false hij]
  · exact hr.elim
theorem elim_full {l : List Nat} {n : Nat} (hl : NOk n l) (hn : n ≤ 5) (hF : Full n l) : ∃ gs, F_impl_eliminated (TLinear.mk (cI l)) = some gs ∧ GsN n gs ∧ gs.length ≤ 50 ∧ cxs gs l = idn n := by
  unfold F_impl_eliminated F_slices_Clone_int_int
  have hlen : (cI l).length = n := by rw [cI_len]; exact hl.1
  simp only
  rw [chk_t (by omega)]
  simp only [Option.bind_some]
  rw [chk_t (by omega), hlen]
  obtain ⟨s, f1, l', h1, h2, h3, h4, h5, h6, h7, _⟩ := forN_inv (f := F_impl_eliminated_l1 (cI l)) (fun i s => El n i l (10 * i) (fun _ => True) s) n 0 (cI l, []) ⟨l, rfl, hl, (fun g hg => nomatch hg), Nat.le_refl 0, rfl, hF, fun i j _ hj => absurd hj (Nat.not_lt_zero _), trivial⟩ (fun i s _ hi h => by
    obtain ⟨s', a1, a2⟩ := el_l1 (b := 10 * i) hn (show i < n by omega) (by omega) hlen h
    exact ⟨s', a1, a2.mono (by omega) (fun _ h => h)⟩)
  rw [f1]
  obtain ⟨R', o'⟩ := s
  refine ⟨o', rfl, h3, by simp only at h4; omega, ?_⟩
  simp only at h5
  rw [← h5]
  refine nat_ext (by rw [h2.1, (idn_ok n).1]) fun i hi => ?_
  rw [h2.1] at hi
  rw [idn_get hi]
  refine Nat.eq_of_testBit_eq fun j => ?_
  rw [Nat.testBit_two_pow]
  rcases Nat.lt_or_ge j n with hj | hj
  · exact h7 i j hi (by omega)
  · rw [tb_out (getD_lt h2.2 i) hj, decide_eq_false (show ¬ i = j by omega)]
theorem ident_eq : ∀ n : Fin 6, F_impl_identityLinear (n.val : Int) = some (TLinear.mk (cI (idn n.val))) := by decide +kernel
theorem inverse_full {l : List Nat} {n : Nat} (hl : NOk n l) (hn : n ≤ 5) (hF : Full n l) : ∃ l', F_impl_Linear_inverted (TLinear.mk (cI l)) = some (TLinear.mk (cI l')) ∧ NOk n l' ∧ Full n l' ∧ l'.map (thr l) = idn n := by
  unfold F_impl_Linear_inverted
  have hlen : (cI l).length = n := by rw [cI_len]; exact hl.1
  rw [hlen]
  have hid := ident_eq ⟨n, by omega⟩
  simp only at hid
  obtain ⟨gs, g1, g2, g3, g4⟩ := elim_full hl hn hF
  rw [hid, g1]
  simp only [Option.bind_some]
  rw [chk_t (by omega)]
  obtain ⟨s, f1, l', f2, f3, f4, f5⟩ := forN_inv (f := F_impl_Linear_inverted_l1 gs) (fun i s => ∃ l', s = cI l' ∧ NOk n l' ∧ Full n l' ∧ l'.map (thr l) = cxs (gs.take i) l) gs.length 0 (cI (idn n)) ⟨idn n, rfl, idn_ok n, idn_full n, by rw [idn_map hl.1 hn]; rfl⟩ (fun i s _ hi ⟨l', e2, e3, e4, e5⟩ => by
    subst e2
    have hx := List.getElem?_eq_getElem (show i < gs.length by omega)
    obtain ⟨a, b, ha, hb, hab, hg⟩ := g2 _ (List.mem_of_getElem? hx)
    rw [hg] at hx
    obtain ⟨c3, c4, c5⟩ := cxM e3 hn ha hb
    refine ⟨cI (cxL l' a b), ?_, _, rfl, cxL_ok e3 _ _, ?_, ?_⟩
    · unfold F_impl_Linear_inverted_l1
      rw [getI_nat, hx]
      simp only [Option.bind_some, c3, c4, c5]
    · exact full_cx e3.1 ha hb hab e4
    · rw [cxL_map (by rw [e3.1]; exact ha) (by rw [e3.1]; exact hb), e5, List.take_add_one, hx]
      exact (cxs_snoc _ a b l).symm)
  rw [f1]
  refine ⟨l', by rw [f2]; rfl, f3, f4, ?_⟩
  rw [f5, Nat.zero_add, List.take_length, g4]

def iSum : Nat → (Nat → Int) → Int
  | 0, _ => 0
  | n + 1, f => iSum n f + f n
theorem iSum_zero : ∀ {n : Nat} {f : Nat → Int}, (∀ k, k < n → f k = 0) → iSum n f = 0
  | 0, _, _ => rfl
  | n + 1, f, h => by
    show iSum n f + f n = 0
    rw [iSum_zero (fun k hk => h k (by omega)), h n (by omega)]; rfl
theorem iSum_one {f : Nat → Int} {s : Nat} : ∀ {n : Nat}, s < n → (∀ k, k < n → k ≠ s → f k = 0) → iSum n f = f s
  | 0, h, _ => absurd h (Nat.not_lt_zero _)
  | n + 1, h, hz => by
    show iSum n f + f n = f s
    by_cases hs : s = n
    · subst hs
      rw [iSum_zero (fun k hk => hz k (by omega) (by omega))]; omega
    · rw [iSum_one (show s < n by omega) (fun k hk hne => hz k (by omega) hne), hz n (by omega) (fun h => hs h.symm)]; omega
theorem iSum_add (f g : Nat → Int) : ∀ n, iSum n (fun k => f k + g k) = iSum n f + iSum n g
  | 0 => rfl
  | n + 1 => by
    show iSum n (fun k => f k + g k) + (f n + g n) = (iSum n f + f n) + (iSum n g + g n)
    rw [iSum_add f g n]; omega
/-- What a table adds up to. -/
def tabS (f : Nat → Int) (S : List Int) : Int := iSum 32 (fun m => f m * S.getD m 0)
theorem getD_set_i {S : List Int} {j : Nat} (hj : j < S.length) (y : Int) (m : Nat) : (S.set j y).getD m 0 = if m = j then y else S.getD m 0 := by
  rw [List.getD_eq_getElem?_getD, List.getElem?_set]
  by_cases h : j = m
  · subst h; rw [if_pos rfl, if_pos hj, if_pos rfl]; rfl
  · rw [if_neg h, if_neg (Ne.symm h), ← List.getD_eq_getElem?_getD]
theorem tabS_set (f : Nat → Int) {S : List Int} (hS : S.length = 32) {j : Nat} (hj : j < 32) (y : Int) : tabS f (S.set j y) = tabS f S + f j * (y - S.getD j 0) := by
  unfold tabS
  have : (fun m => f m * (S.set j y).getD m 0) = fun m => f m * S.getD m 0 + (if m = j then f j * (y - S.getD j 0) else 0) := by
    funext m
    rw [getD_set_i (by omega)]
    split
    · rename_i e; subst e; rw [Int.mul_sub]; omega
    · omega
  rw [this, iSum_add, iSum_one (s := j) hj (fun k _ hk => if_neg hk), if_pos rfl]
/-- What terms add up to. -/
def termS (f : Nat → Int) : List TTerm → Int
  | [] => 0
  | t :: T => f t.Mask.toNat * t.Coef + termS f T
theorem termS_snoc (f : Nat → Int) (t : TTerm) : ∀ T, termS f (T ++ [t]) = termS f T + f t.Mask.toNat * t.Coef
  | [] => by simp [termS]
  | x :: T => by
    show f x.Mask.toNat * x.Coef + termS f (T ++ [t]) = f x.Mask.toNat * x.Coef + termS f T + _
    rw [termS_snoc f t T]; omega
theorem termS_take (f : Nat → Int) {T : List TTerm} {i : Nat} {x : TTerm} (hx : T[i]? = some x) : termS f (T.take (i + 1)) = termS f (T.take i) + f x.Mask.toNat * x.Coef := by
  rw [List.take_add_one, hx]
  exact termS_snoc f x _
/-- The terms of a table. -/
def tl (S : List Int) : Nat → List TTerm
  | 0 => []
  | n + 1 => tl S n ++ (if 0 < n ∧ 0 < S.getD n 0 then [TTerm.mk (n : Int) (S.getD n 0)] else [])
/-- A table that is taken. -/
def TabOk (N : Nat) (S : List Int) : Prop := S.length = 32 ∧ (∀ m, 0 ≤ S.getD m 0 ∧ S.getD m 0 ≤ 7) ∧ ∀ m, N ≤ m → S.getD m 0 = 0
theorem tl_len (S : List Int) : ∀ n, (tl S n).length ≤ n
  | 0 => Nat.le_refl _
  | n + 1 => by
    have := tl_len S n
    unfold tl
    split
    · simp; omega
    · simp; omega
theorem tl_terms {N : Nat} {S : List Int} (h : TabOk N S) : F_impl_coefficients_terms S = some (tl S 32) := by
  obtain ⟨l, h1, h2⟩ := forN_inv (f := F_impl_coefficients_terms_l1 S) (fun i s => s = tl S i) 32 0 [] rfl (fun i s _ hi hs => by
    subst hs
    have hx : getI S (i : Int) = some (S.getD i 0) := by rw [getI_nat, List.getD_eq_getElem?_getD, List.getElem?_eq_getElem (show i < S.length by have := h.1; omega)]; rfl
    have hl := tl_len S i
    refine ⟨_, ?_, rfl⟩
    unfold F_impl_coefficients_terms_l1
    simp only [hx, Option.bind_some]
    rw [show tl S (i + 1) = tl S i ++ (if 0 < i ∧ 0 < S.getD i 0 then [TTerm.mk (i : Int) (S.getD i 0)] else []) from rfl]
    by_cases hc : 0 < i ∧ 0 < S.getD i 0
    · rw [if_pos hc, decide_eq_true (show (0 : Int) < (i : Int) by omega), decide_eq_true hc.2]
      simp only [Bool.and_self, cond_true]
      rw [chk_t (by omega)]
      rfl
    · rw [if_neg hc, List.append_nil]
      have e : (decide ((0 : Int) < (i : Int)) && decide (0 < S.getD i 0)) = false := by
        simp only [Bool.and_eq_false_iff, decide_eq_false_iff_not]; omega
      rw [e]; rfl)
  unfold F_impl_coefficients_terms
  rw [h1, h2]; rfl
theorem tl_sum {N : Nat} {S : List Int} (h : TabOk N S) {f : Nat → Int} (hf : f 0 = 0) : ∀ n, termS f (tl S n) = iSum n (fun m => f m * S.getD m 0)
  | 0 => rfl
  | n + 1 => by
    show termS f (tl S n ++ _) = iSum n (fun m => f m * S.getD m 0) + f n * S.getD n 0
    rw [← tl_sum h hf n]
    split
    · rw [termS_snoc]; rfl
    · rename_i hc
      rw [List.append_nil]
      have h0 := (h.2.1 n).1
      by_cases hn : n = 0
      · subst hn; rw [hf]; omega
      · rw [show S.getD n 0 = 0 by omega]; omega
theorem tl_val {N : Nat} {S : List Int} (h : TabOk N S) {f : Nat → Int} (hf : f 0 = 0) : termS f (tl S 32) = tabS f S := tl_sum h hf 32
theorem tl_get {N : Nat} {S : List Int} (h : TabOk N S) : ∀ (n : Nat), (∀ x ∈ tl S n, (1 ≤ x.Mask ∧ x.Mask < (N : Int) ∧ x.Mask < (n : Int)) ∧ 1 ≤ x.Coef ∧ x.Coef ≤ 7) ∧ ∀ (i : Nat) x y, (tl S n)[i]? = some x → (tl S n)[i + 1]? = some y → x.Mask < y.Mask
  | 0 => ⟨fun x hx => (by cases hx), fun i x y hx => (by simp [tl] at hx)⟩
  | n + 1 => by
    obtain ⟨h1, h2⟩ := tl_get h n
    unfold tl
    split
    · rename_i hc
      have hnN : n < N := by
        rcases Nat.lt_or_ge n N with a | a
        · exact a
        · have := h.2.2 n a; omega
      have h7 := (h.2.1 n).2
      refine ⟨fun x hx => ?_, fun i x y hx hy => ?_⟩
      · rcases List.mem_append.1 hx with hx | hx
        · obtain ⟨a, b⟩ := h1 x hx
          exact ⟨⟨a.1, a.2.1, by omega⟩, b⟩
        · simp only [List.mem_singleton] at hx
          subst hx
          simp only
          omega
      · have hyl := (List.getElem?_eq_some_iff.1 hy).1
        rw [List.length_append, List.length_singleton] at hyl
        rw [List.getElem?_append_left (by omega)] at hx
        by_cases hi : i + 1 < (tl S n).length
        · rw [List.getElem?_append_left hi] at hy
          exact h2 i x y hx hy
        · rw [List.getElem?_append_right (by omega), show i + 1 - (tl S n).length = 0 by omega] at hy
          cases hy
          exact (h1 x (List.mem_of_getElem? hx)).1.2.2
    · rw [List.append_nil]
      exact ⟨fun x hx => by obtain ⟨a, b⟩ := h1 x hx; exact ⟨⟨a.1, a.2.1, by omega⟩, b⟩, h2⟩
theorem areTerms_true {T : List TTerm} {n : Nat} (hn : 1 ≤ n ∧ n ≤ 5) (hl : T.length ≤ 9223372036854775807) (h1 : ∀ x ∈ T, (1 ≤ x.Mask ∧ x.Mask < ((2 ^ n : Nat) : Int)) ∧ 1 ≤ x.Coef ∧ x.Coef ≤ 7) (h2 : ∀ (i : Nat) x y, T[i]? = some x → T[i + 1]? = some y → x.Mask < y.Mask) : F_impl_areTerms (n : Int) T = some true := by
  have hq : 1 ≤ (n : Int) ∧ (n : Int) ≤ 5 := by omega
  obtain ⟨s1, s2, s3, s4, s5, s6⟩ := shl_small hq
  rw [Int.toNat_natCast] at s2 s3 s4 s5 s6
  unfold F_impl_areTerms
  rw [chk_t hl, forX_pass (f := F_impl_areTerms_l1 T n) (n := T.length) (s := ()) (fun k hk => by
    have hx := List.getElem?_eq_getElem hk
    generalize T[k] = x at hx
    obtain ⟨⟨a1, a2⟩, a3, a4⟩ := h1 x (List.mem_of_getElem? hx)
    unfold F_impl_areTerms_l1
    rw [getI_nat, hx]
    simp only [Option.bind_some]
    rw [chk_t (by omega), s3, s6, in_eq, in_eq]
    simp only [Option.bind_some]
    rw [decide_eq_true a1, decide_eq_true (show x.Mask ≤ ((2 ^ n : Nat) : Int) - 1 by omega), decide_eq_true a3, decide_eq_true a4]
    simp only [Bool.and_self, Bool.not_true, Bool.not_false, Bool.or_self, gb, cond_true, Option.bind_some, Bool.true_and, Bool.false_or]
    by_cases hk0 : k = 0
    · subst hk0
      rw [decide_eq_false (show ¬ (0 : Int) < ((0 : Nat) : Int) by omega)]
      simp only [cond_false, Option.bind_some, Bool.false_and]
    · rw [decide_eq_true (show (0 : Int) < (k : Int) by omega), wrap_i64 (a := (k : Int) - 1) ⟨by omega, by omega⟩]
      obtain ⟨j, rfl⟩ : ∃ j, k = j + 1 := ⟨k - 1, by omega⟩
      rw [show (((j + 1 : Nat) : Int) - 1) = ((j : Nat) : Int) by omega, getI_nat]
      have hy := List.getElem?_eq_getElem (show j < T.length by omega)
      generalize T[j] = y at hy
      rw [hy]
      simp only [cond_true, Option.bind_some, Bool.true_and]
      have := h2 j y x hy hx
      rw [decide_eq_false (show ¬ x.Mask ≤ y.Mask by omega)]
      rfl)]
  rfl
/-- One more onto a table. -/
theorem tab_add {N : Nat} {S : List Int} (h : TabOk N S) (hN : N ≤ 32) {m : Nat} (hm : m < N) {d : Int} (hd : -28 ≤ d ∧ d ≤ 28) : ∃ S', F_impl_coefficients_add S (m : Int) d = some S' ∧ TabOk N S' ∧ ∀ f, ∃ q, tabS f S' = tabS f S + f m * d + 8 * q := by
  have hl := h.1
  have hx : getI S (m : Int) = some (S.getD m 0) := by rw [getI_nat, List.getD_eq_getElem?_getD, List.getElem?_eq_getElem (show m < S.length by omega)]; rfl
  have hb := h.2.1 m
  refine ⟨S.set m ((S.getD m 0 + d) % 8), ?_, ⟨by simpa using hl, fun j => ?_, fun j hj => ?_⟩, fun f => ⟨f m * -((S.getD m 0 + d) / 8), ?_⟩⟩
  · unfold F_impl_coefficients_add
    rw [hx]
    simp only [Option.bind_some]
    rw [wrap_i64 (a := S.getD m 0 + d) ⟨by omega, by omega⟩]
    have := m8_eq (x := S.getD m 0 + d) ⟨by omega, by omega⟩
    unfold m8 at this
    rw [this]; rfl
  · rw [getD_set_i (by omega)]
    split
    · omega
    · exact h.2.1 j
  · rw [getD_set_i (by omega), if_neg (by omega)]
    exact h.2.2 j hj
  · rw [tabS_set f hl (by omega)]
    generalize S.getD m 0 = s at *
    have e : (s + d) % 8 - s = d + 8 * -((s + d) / 8) := by omega
    rw [e, Int.mul_add, Int.mul_left_comm]
    omega
theorem tab_zero (N : Nat) : TabOk N (List.replicate 32 0) ∧ ∀ f, tabS f (List.replicate 32 0) = 0 := by
  have e : ∀ m, (List.replicate 32 (0 : Int)).getD m 0 = 0 := fun m => by
    rw [List.getD_eq_getElem?_getD, List.getElem?_replicate]; split <;> rfl
  exact ⟨⟨by simp, fun m => by rw [e]; omega, fun m _ => e m⟩, fun f => iSum_zero fun k _ => by rw [e]; omega⟩
/-- Terms onto a table, one after the other, each under a mask of its own. -/
theorem tab_loop {N : Nat} {S : List Int} (h : TabOk N S) (hN : N ≤ 32) {T : List TTerm} {g : Nat → List Int → Option (List Int)} {mk : Nat → Nat} {cf : Int → Int} (hg : ∀ (i : Nat) x S, T[i]? = some x → g i S = F_impl_coefficients_add S ((mk x.Mask.toNat : Nat) : Int) (cf x.Coef))
    (hm : ∀ x ∈ T, mk x.Mask.toNat < N ∧ -28 ≤ cf x.Coef ∧ cf x.Coef ≤ 28) (hc : ∀ a b, a * cf b = cf (a * b)) (hc2 : ∀ a b, cf (a + b) = cf a + cf b) : ∃ S', forN g T.length 0 S = some S' ∧ TabOk N S' ∧ ∀ f, ∃ q, tabS f S' = tabS f S + cf (termS (fun m => f (mk m)) T) + 8 * q := by
  have hc0 : cf 0 = 0 := by have := hc2 0 0; rw [Int.add_zero] at this; omega
  obtain ⟨S', h1, h2, h3⟩ := forN_inv (f := g) (fun i S' => TabOk N S' ∧ ∀ f, ∃ q, tabS f S' = tabS f S + cf (termS (fun m => f (mk m)) (T.take i)) + 8 * q) T.length 0 S ⟨h, fun f => ⟨0, by rw [List.take_zero]; show _ = _ + cf 0 + _; rw [hc0]; omega⟩⟩ (fun i S' _ hi ⟨k1, k2⟩ => by
    have hx := List.getElem?_eq_getElem (show i < T.length by omega)
    generalize T[i] = x at hx
    obtain ⟨m1, m2⟩ := hm x (List.mem_of_getElem? hx)
    obtain ⟨S2, e1, e2, e3⟩ := tab_add k1 hN m1 m2
    refine ⟨S2, by rw [hg i x S' hx]; exact e1, e2, fun f => ?_⟩
    obtain ⟨q, hq⟩ := k2 f
    obtain ⟨q', hq'⟩ := e3 f
    refine ⟨q + q', ?_⟩
    rw [hq', hq, termS_take _ hx, hc2, hc]
    omega)
  rw [Nat.zero_add, List.take_length] at h3
  exact ⟨S', h1, h2, h3⟩

def pn (x : Nat) : Nat := (setW x 32).length % 2
theorem pn_small : ∀ (a b : Fin 32), pn (a.val ^^^ b.val) = (pn a.val + pn b.val) % 2 := by decide +kernel
theorem pn_lt (x : Nat) : pn x < 2 := Nat.mod_lt _ (by decide)
theorem pn_xor {a b : Nat} (ha : a < 32) (hb : b < 32) : pn (a ^^^ b) = (pn a + pn b) % 2 := pn_small ⟨a, ha⟩ ⟨b, hb⟩
theorem pn_two : ∀ (q : Fin 5) (y : Fin 32), pn (2 ^ q.val &&& y.val) = (if y.val.testBit q.val then 1 else 0) := by decide +kernel
theorem and32 {a : Nat} (b : Nat) (ha : a < 32) : a &&& b < 32 := Nat.lt_of_le_of_lt Nat.and_le_left ha
theorem pn_and_xor {a b : Nat} (x : Nat) (ha : a < 32) (hb : b < 32) : pn ((a ^^^ b) &&& x) = (pn (a &&& x) + pn (b &&& x)) % 2 := by
  rw [Nat.and_xor_distrib_right, pn_xor (and32 x ha) (and32 x hb)]
theorem parity_eq {m x : Nat} (hm : m < 32) (hx : x < 32) : F_impl_parityOf (bits .and .i64 (m : Int) (x : Int)) = some ((pn (m &&& x) : Nat) : Int) := by
  have h := and32 x hm
  unfold F_impl_parityOf F_math_bits_OnesCount
  rw [and_i (by omega) (by omega), wrapU (by omega), ones_eq (by omega)]
  rfl
def phS (x : Nat) (m : Nat) : Int := ((pn (m &&& x) : Nat) : Int)
theorem phS_zero (x : Nat) : phS x 0 = 0 := by unfold phS; rw [Nat.zero_and]; decide
theorem termS_bound {T : List TTerm} {f : Nat → Int} (hf : ∀ m, 0 ≤ f m ∧ f m ≤ 1) (hT : ∀ x ∈ T, 1 ≤ x.Coef ∧ x.Coef ≤ 7) : 0 ≤ termS f T ∧ termS f T ≤ 7 * (T.length : Int) := by
  induction T with
  | nil => exact ⟨Int.le_refl 0, by simp [termS]⟩
  | cons t T ih =>
    have h1 := ih (fun x hx => hT x (List.mem_cons_of_mem _ hx))
    have h2 := hT t (List.mem_cons_self ..)
    have h3 := hf t.Mask.toNat
    have h4 : 0 ≤ f t.Mask.toNat * t.Coef ∧ f t.Mask.toNat * t.Coef ≤ 7 := by
      have : f t.Mask.toNat = 0 ∨ f t.Mask.toNat = 1 := by omega
      rcases this with e | e <;> rw [e] <;> omega
    show 0 ≤ f t.Mask.toNat * t.Coef + termS f T ∧ f t.Mask.toNat * t.Coef + termS f T ≤ _
    simp only [List.length_cons]
    push_cast
    omega
theorem mem_take {α : Type} {T : List α} {i : Nat} {x : α} (h : x ∈ T.take i) : x ∈ T := List.mem_of_mem_take h
theorem poly_coef {p : TPhasePoly} {n : Nat} {l : List Nat} (h : PolyOk p n l) : ∀ x ∈ p.Terms, 1 ≤ x.Coef ∧ x.Coef ≤ 7 := fun x hx => by
  obtain ⟨i, hi⟩ := List.mem_iff_getElem?.1 hx
  exact (h.2.2.2.1 i x hi).2.2
theorem poly_mask {p : TPhasePoly} {n : Nat} {l : List Nat} (h : PolyOk p n l) : ∀ x ∈ p.Terms, ∃ m : Nat, x.Mask = (m : Int) ∧ 1 ≤ m ∧ m < 2 ^ n := fun x hx => by
  obtain ⟨i, hi⟩ := List.mem_iff_getElem?.1 hx
  exact mask_nat h hi
/-- The phase at a basis state. -/
theorem phase_at {p : TPhasePoly} {n : Nat} {l : List Nat} (h : PolyOk p n l) (hv : F_impl_IsValidPhasePoly p = some true) {x : Nat} (hx : x < 2 ^ n) : F_impl_PhaseAt p (x : Int) = some ((p.Phase + termS (phS x) p.Terms) % 8, true) := by
  have t0 := terms_len h
  have h32 := pow32 h.1.2.1
  have hq : 1 ≤ p.Qubits ∧ p.Qubits ≤ 5 := by have := h.1; omega
  obtain ⟨s1, s2, s3, s4, s5, s6⟩ := shl_small hq
  have hqn : p.Qubits.toNat = n := by have := h.1; omega
  rw [hqn] at s2 s3 s4 s5 s6
  have hf : ∀ m, 0 ≤ phS x m ∧ phS x m ≤ 1 := fun m => by unfold phS; have := pn_lt (m &&& x); omega
  unfold F_impl_PhaseAt
  rw [hv]
  simp only [Option.bind_some, Bool.not_true, Bool.not_false, gb, cond_true, Bool.false_or]
  rw [chk_t (fun _ => by omega), s3, s6, in_eq, decide_eq_true (show (0 : Int) ≤ (x : Int) by omega), decide_eq_true (show (x : Int) ≤ ((2 ^ n : Nat) : Int) - 1 by omega)]
  simp only [Option.bind_some, Bool.and_self, Bool.not_true, cond_false]
  rw [chk_t (by omega)]
  obtain ⟨e, h1, h2⟩ := forN_inv (f := F_impl_PhaseAt_l1 p (x : Int)) (fun i e => e = p.Phase + termS (phS x) (p.Terms.take i)) p.Terms.length 0 p.Phase (by rw [List.take_zero]; show _ = _ + (0 : Int); omega) (fun i e _ hi he => by
    have hx' := List.getElem?_eq_getElem (show i < p.Terms.length by omega)
    generalize p.Terms[i] = y at hx'
    have hmem := List.mem_of_getElem? hx'
    obtain ⟨m, hm, m1, m2⟩ := poly_mask h y hmem
    have hc := poly_coef h y hmem
    have hb := termS_bound (T := p.Terms.take i) hf (fun z hz => poly_coef h z (mem_take hz))
    have hl : (p.Terms.take i).length ≤ 31 := by rw [List.length_take]; omega
    have hph := h.2.1
    refine ⟨_, ?_, rfl⟩
    unfold F_impl_PhaseAt_l1
    rw [getI_nat, hx']
    simp only [Option.bind_some]
    rw [hm, parity_eq (by omega) (by omega)]
    simp only [Option.bind_some]
    rw [termS_take _ hx', hm, Int.toNat_natCast, he]
    have h3 : y.Coef * ((pn (m &&& x) : Nat) : Int) = phS x m * y.Coef := Int.mul_comm _ _
    have h4 := hf m
    have h5 : 0 ≤ phS x m * y.Coef ∧ phS x m * y.Coef ≤ 7 := by
      have : phS x m = 0 ∨ phS x m = 1 := by omega
      rcases this with e | e <;> rw [e] <;> omega
    rw [h3, wrap_i64 (a := phS x m * y.Coef) ⟨by omega, by omega⟩, wrap_i64 ⟨by omega, by omega⟩, Int.add_assoc])
  rw [h1, h2, Nat.zero_add, List.take_length]
  have hb := termS_bound (T := p.Terms) hf (fun z hz => poly_coef h z hz)
  have hph := h.2.1
  simp only [Option.bind_some]
  rw [Int.tmod_eq_emod_of_nonneg (by omega)]
theorem termS_congr {f g : Nat → Int} : ∀ {T : List TTerm}, (∀ x ∈ T, f x.Mask.toNat = g x.Mask.toNat) → termS f T = termS g T
  | [], _ => rfl
  | t :: T, h => by
    show f t.Mask.toNat * t.Coef + termS f T = g t.Mask.toNat * t.Coef + termS g T
    rw [h t (List.mem_cons_self ..), termS_congr (fun x hx => h x (List.mem_cons_of_mem _ hx))]
theorem cI_inj {l l' : List Nat} (h : cI l = cI l') : l = l' := by
  have key : ∀ l : List Nat, (cI l).map Int.toNat = l := fun l => by
    unfold cI
    rw [List.map_map]
    conv => rhs; rw [← List.map_id l]
    apply List.map_congr_left
    intro x _; rfl
  rw [← key l, h, key l']
/-- What is checked is what it should be. -/
theorem poly_mk {n : Nat} (hn : 1 ≤ n ∧ n ≤ 5) {P : Int} (hP : 0 ≤ P ∧ P ≤ 7) {S : List Int} (hS : TabOk (2 ^ n) S) {l : List Nat} (hl : NOk n l) (hF : Full n l) :
    F_impl_IsValidPhasePoly (TPhasePoly.mk (n : Int) P (tl S 32) (TLinear.mk (cI l))) = some true ∧ PolyOk (TPhasePoly.mk (n : Int) P (tl S 32) (TLinear.mk (cI l))) n l := by
  have hlen := tl_len S 32
  have hcl : (cI l).length = n := by rw [cI_len]; exact hl.1
  have hv : F_impl_IsValidPhasePoly (TPhasePoly.mk (n : Int) P (tl S 32) (TLinear.mk (cI l))) = some true := by
    unfold F_impl_IsValidPhasePoly
    simp only
    rw [in_eq, in_eq, decide_eq_true (show (1 : Int) ≤ (n : Int) by omega), decide_eq_true (show (n : Int) ≤ 5 by omega), decide_eq_true hP.1, decide_eq_true hP.2]
    simp only [Option.bind_some, Bool.and_self, gb, cond_true]
    rw [areTerms_true hn (by omega) (fun x hx => by
      obtain ⟨⟨a, b, _⟩, c⟩ := (tl_get hS 32).1 x hx
      exact ⟨⟨a, b⟩, c⟩) (tl_get hS 32).2]
    simp only [Option.bind_some, Bool.true_and]
    rw [hcl, beq_self_eq_true]
    simp only [cond_true]
    rw [lin_valid hl.1 hn.1 hn.2 hl.2 hF]
    rfl
  refine ⟨hv, ?_⟩
  obtain ⟨b, e1, e2, e3⟩ := poly_both (p := TPhasePoly.mk (n : Int) P (tl S 32) (TLinear.mk (cI l))) (by simp only; omega) (by simp only; omega)
  rw [hv] at e2
  cases e2
  obtain ⟨n', l', k⟩ := e3 rfl
  have hnn : n' = n := by have := k.1.2.2; simp only at this; omega
  have hll := k.2.2.1.1
  simp only [TLinear.mk.injEq] at hll
  have hll := cI_inj hll
  subst hll hnn
  exact k
def mid (l : List Nat) (x : Nat) : Nat → Nat
  | 0 => 0
  | k + 1 => mid l x k ||| (pn (l.getD k 0 &&& x) <<< k)
theorem mid_lt (l : List Nat) (x : Nat) : ∀ k, mid l x k < 2 ^ k
  | 0 => Nat.one_pos
  | k + 1 => by
    have h1 := mid_lt l x k
    have h2 := pn_lt (l.getD k 0 &&& x)
    have h3 : 2 ^ k < 2 ^ (k + 1) := Nat.pow_lt_pow_right (by decide) (by omega)
    refine Nat.or_lt_two_pow (by omega) ?_
    rw [Nat.shiftLeft_eq, Nat.pow_succ, Nat.mul_comm]
    exact Nat.mul_lt_mul_of_pos_left h2 (Nat.two_pow_pos k)
theorem mid_bit (l : List Nat) (x : Nat) : ∀ k j, j < k → (mid l x k).testBit j = decide (pn (l.getD j 0 &&& x) = 1)
  | 0, _, h => absurd h (Nat.not_lt_zero _)
  | k + 1, j, h => by
    have h2 := pn_lt (l.getD k 0 &&& x)
    show (mid l x k ||| (pn (l.getD k 0 &&& x) <<< k)).testBit j = _
    rw [Nat.testBit_or, Nat.testBit_shiftLeft]
    by_cases hj : j = k
    · subst hj
      rw [tb_out (mid_lt l x j) (Nat.le_refl _), Nat.sub_self]
      have : pn (l.getD j 0 &&& x) = 0 ∨ pn (l.getD j 0 &&& x) = 1 := by omega
      rcases this with e | e <;> rw [e] <;> simp
    · rw [mid_bit l x k j (by omega), decide_eq_false (show ¬ j ≥ k by omega)]
      simp
theorem thr_mid {l : List Nat} {n : Nat} (hl : NOk n l) (hn : n ≤ 5) (x : Nat) {m : Nat} (hm : m < 2 ^ n) : pn (thr l m &&& x) = pn (m &&& mid l x n) := by
  have h32 := pow32 hn
  have hmid := mid_lt l x n
  have hs := full_all (idn_full n) n 0 m (by omega) hm (fun j hj => absurd hj (Nat.not_lt_zero _)) (idn_ok n).2
  have := sp_ind (P := fun m => m < 2 ^ n ∧ pn (thr l m &&& x) = pn (m &&& mid l x n)) ⟨Nat.two_pow_pos n, by rw [thr_zero, Nat.zero_and, Nat.zero_and]⟩ (fun v y hy ⟨hv, he⟩ => by
    obtain ⟨q, hq, rfl⟩ := List.mem_map.1 hy
    have hq := List.mem_range.1 hq
    have hy2 : 2 ^ q < 2 ^ n := Nat.pow_lt_pow_right (by decide) hq
    have t1 := thr_lt hl.1 hn hl.2 hv
    have t2 := thr_lt hl.1 hn hl.2 hy2
    refine ⟨Nat.xor_lt_two_pow hv hy2, ?_⟩
    rw [thr_xor, pn_and_xor x (by omega) (by omega), pn_and_xor _ (by omega) (by omega), he, thr_two l (by omega), pn_two ⟨q, by omega⟩ ⟨mid l x n, by omega⟩]
    simp only
    rw [mid_bit l x n q hq]
    have := pn_lt (l.getD q 0 &&& x)
    by_cases h1 : pn (l.getD q 0 &&& x) = 1
    · rw [h1]; simp
    · rw [show pn (l.getD q 0 &&& x) = 0 by omega]; simp) hs
  exact this.2
theorem thr_thr {l l' : List Nat} {n : Nat} (hl : NOk n l) (hl' : NOk n l') (hn : n ≤ 5) (h : l'.map (thr l) = idn n) {m : Nat} (hm : m < 2 ^ n) : thr l (thr l' m) = m := by
  have hs := full_all (idn_full n) n 0 m (by omega) hm (fun j hj => absurd hj (Nat.not_lt_zero _)) (idn_ok n).2
  refine sp_ind (P := fun m => thr l (thr l' m) = m) (by rw [thr_zero, thr_zero]) (fun v y hy he => ?_) hs
  obtain ⟨q, hq, rfl⟩ := List.mem_map.1 hy
  have hq := List.mem_range.1 hq
  rw [thr_xor, thr_xor, he, thr_two l' (by omega)]
  have : (l'.map (thr l)).getD q 0 = 2 ^ q := by rw [h, idn_get hq]
  rw [map_getD (by rw [hl'.1]; exact hq)] at this
  rw [this]
theorem comp_val {a b : TPhasePoly} {n : Nat} {l l' : List Nat} (k0 : PolyOk a n l) (k1 : PolyOk b n l') (v0 : F_impl_IsValidPhasePoly a = some true) (v1 : F_impl_IsValidPhasePoly b = some true) :
    ∃ m, F_impl_ComposePhase a b = some (m, true) ∧ PolyOk m n (l'.map (thr l)) ∧ F_impl_IsValidPhasePoly m = some true ∧ m.Phase = (a.Phase + b.Phase) % 8 ∧
      ∀ f, f 0 = 0 → ∃ q, termS f m.Terms = termS f a.Terms + termS (fun m => f (thr l m)) b.Terms + 8 * q := by
  have hn := k0.1.2.1
  have h32 := pow32 hn
  have t0 := terms_len k0
  have t1 := terms_len k1
  obtain ⟨o0, ol, os, _, _, ov⟩ := k0.2.2.1
  obtain ⟨o0', ol', os', _, _, ov'⟩ := k1.2.2.1
  have p0 := k0.2.1
  have p1 := k1.2.1
  unfold F_impl_ComposePhase
  rw [v0]
  simp only [Option.bind_some, gb, Bool.not_true, Bool.not_false, cond_true]
  rw [v1]
  simp only [Option.bind_some, Bool.not_true, Bool.or_self, Bool.false_or]
  have e : (a.Qubits != b.Qubits) = false := by have := k0.1.2.2; have := k1.1.2.2; simp; omega
  rw [e]
  simp only [cond_false]
  rw [chk_t (by omega)]
  obtain ⟨S, f1, f2, f3⟩ := tab_loop (T := a.Terms) (N := 2 ^ n) (tab_zero (2 ^ n)).1 h32 (g := F_impl_ComposePhase_l1 a) (mk := id) (cf := id) (fun i x S hx => by
    obtain ⟨m, hm, _⟩ := poly_mask k0 x (List.mem_of_getElem? hx)
    unfold F_impl_ComposePhase_l1
    rw [getI_nat, hx]
    simp only [Option.bind_some, id]
    rw [show ((x.Mask.toNat : Nat) : Int) = x.Mask by omega]
    cases F_impl_coefficients_add S x.Mask x.Coef <;> rfl) (fun x hx => by
    obtain ⟨m, hm, _, m2⟩ := poly_mask k0 x hx
    have := poly_coef k0 x hx
    simp only [id]; omega) (fun _ _ => rfl) (fun _ _ => rfl)
  rw [f1]
  simp only [Option.bind_some]
  rw [chk_t (by omega)]
  obtain ⟨S2, g1, g2, g3⟩ := tab_loop (T := b.Terms) (N := 2 ^ n) f2 h32 (g := F_impl_ComposePhase_l2 b a) (mk := thr l) (cf := id) (fun i x S hx => by
    obtain ⟨m, hm, _, m2⟩ := poly_mask k1 x (List.mem_of_getElem? hx)
    unfold F_impl_ComposePhase_l2
    rw [getI_nat, hx]
    simp only [Option.bind_some, id]
    rw [o0, hm, through_impl ol hn os m2]
    simp only [Option.bind_some, Int.toNat_natCast]
    cases F_impl_coefficients_add S ((thr l m : Nat) : Int) x.Coef <;> rfl) (fun x hx => by
    obtain ⟨m, hm, _, m2⟩ := poly_mask k1 x hx
    have := poly_coef k1 x hx
    rw [hm, Int.toNat_natCast]
    exact ⟨thr_lt ol hn os m2, by simp only [id]; omega, by simp only [id]; omega⟩) (fun _ _ => rfl) (fun _ _ => rfl)
  rw [g1]
  simp only [Option.bind_some]
  have ovc := ov
  have ovc' := ov'
  rw [o0] at ovc
  rw [o0'] at ovc'
  rw [o0, o0', (then_both ol hn os ol' os' ovc ovc').2]
  simp only [Option.bind_some]
  rw [tl_terms g2]
  simp only [Option.bind_some]
  have hQ : a.Qubits = (n : Int) := k0.1.2.2
  have hlm : NOk n (l'.map (thr l)) := ⟨by rw [List.length_map]; exact ol', fun x hx => by
    obtain ⟨y, hy, rfl⟩ := List.mem_map.1 hx
    exact thr_lt ol hn os (os' y hy)⟩
  have hFF := full_comp ⟨ol, os⟩ ⟨ol', os'⟩ hn (poly_full k0) (poly_full k1)
  have hph : Int.tmod (IntKind.i64.wrap (a.Phase + b.Phase)) 8 = (a.Phase + b.Phase) % 8 := by
    rw [wrap_i64 ⟨by omega, by omega⟩, Int.tmod_eq_emod_of_nonneg (by omega)]
  rw [hph, hQ]
  obtain ⟨w1, w2⟩ := poly_mk ⟨k0.1.1, hn⟩ (P := (a.Phase + b.Phase) % 8) ⟨by omega, by omega⟩ g2 hlm hFF
  refine ⟨_, rfl, w2, w1, rfl, fun f hf => ?_⟩
  obtain ⟨q, hq⟩ := f3 f
  obtain ⟨q', hq'⟩ := g3 f
  refine ⟨q + q', ?_⟩
  show termS f (tl S2 32) = _
  rw [tl_val g2 hf, hq', hq, (tab_zero (2 ^ n)).2]
  show 0 + termS f a.Terms + 8 * q + termS (fun m => f (thr l m)) b.Terms + 8 * q' = _
  omega
theorem inv_val {p : TPhasePoly} {n : Nat} {l : List Nat} (k0 : PolyOk p n l) (v0 : F_impl_IsValidPhasePoly p = some true) :
    ∃ b l', F_impl_InvertPhase p = some (b, true) ∧ PolyOk b n l' ∧ F_impl_IsValidPhasePoly b = some true ∧ l'.map (thr l) = idn n ∧ b.Phase = (8 - p.Phase) % 8 ∧
      ∀ f, f 0 = 0 → ∃ q, termS f b.Terms = -termS (fun m => f (thr l' m)) p.Terms + 8 * q := by
  have hn := k0.1.2.1
  have h32 := pow32 hn
  have t0 := terms_len k0
  obtain ⟨o0, ol, os, _, _, ov⟩ := k0.2.2.1
  have p0 := k0.2.1
  obtain ⟨l', i1, i2, i3, i4⟩ := inverse_full ⟨ol, os⟩ hn (poly_full k0)
  unfold F_impl_InvertPhase
  rw [v0]
  simp only [Option.bind_some, Bool.not_true, cond_false]
  rw [o0, i1]
  simp only [Option.bind_some]
  rw [chk_t (by omega)]
  obtain ⟨S, f1, f2, f3⟩ := tab_loop (T := p.Terms) (N := 2 ^ n) (tab_zero (2 ^ n)).1 h32 (g := F_impl_InvertPhase_l1 p (TLinear.mk (cI l'))) (mk := thr l') (cf := fun x => -x) (fun i x S hx => by
    obtain ⟨m, hm, _, m2⟩ := poly_mask k0 x (List.mem_of_getElem? hx)
    have := poly_coef k0 x (List.mem_of_getElem? hx)
    unfold F_impl_InvertPhase_l1
    rw [getI_nat, hx]
    simp only [Option.bind_some]
    rw [hm, through_impl i2.1 hn i2.2 m2]
    simp only [Option.bind_some, Int.toNat_natCast]
    rw [wrap_i64 (a := -x.Coef) ⟨by omega, by omega⟩]
    cases F_impl_coefficients_add S ((thr l' m : Nat) : Int) (-x.Coef) <;> rfl) (fun x hx => by
    obtain ⟨m, hm, _, m2⟩ := poly_mask k0 x hx
    have := poly_coef k0 x hx
    rw [hm, Int.toNat_natCast]
    exact ⟨thr_lt i2.1 hn i2.2 m2, by omega, by omega⟩) (fun a b => Int.mul_neg a b) (fun a b => Int.neg_add)
  rw [f1]
  simp only [Option.bind_some]
  rw [tl_terms f2]
  simp only [Option.bind_some]
  have hQ : p.Qubits = (n : Int) := k0.1.2.2
  have hph : Int.tmod (IntKind.i64.wrap (8 - p.Phase)) 8 = (8 - p.Phase) % 8 := by
    rw [wrap_i64 ⟨by omega, by omega⟩, Int.tmod_eq_emod_of_nonneg (by omega)]
  rw [hph, hQ]
  obtain ⟨w1, w2⟩ := poly_mk ⟨k0.1.1, hn⟩ (P := (8 - p.Phase) % 8) ⟨by omega, by omega⟩ f2 i2 i3
  refine ⟨_, l', rfl, w2, w1, i4, rfl, fun f hf => ?_⟩
  obtain ⟨q, hq⟩ := f3 f
  refine ⟨q, ?_⟩
  show termS f (tl S 32) = _
  rw [tl_val f2 hf, hq, (tab_zero (2 ^ n)).2]
  omega

theorem comp_both (a0 a1 : TPhasePoly) (h0 : a0.Terms.length ≤ 1099511627776) (h1 : a0.Out.Rows.length ≤ 1099511627776) (h2 : a1.Terms.length ≤ 1099511627776) (h3 : a1.Out.Rows.length ≤ 1099511627776) :
    ∃ x b, F_spec_ComposePhase a0 a1 = some (x, b) ∧ F_impl_ComposePhase a0 a1 = some (x, b) ∧ x.Terms.length ≤ 1099511627776 ∧ x.Out.Rows.length ≤ 1099511627776 := by
  obtain ⟨b0, s0, i0, p0⟩ := poly_both (p := a0) (by omega) (by omega)
  obtain ⟨b1, s1, i1, p1⟩ := poly_both (p := a1) (by omega) (by omega)
  unfold F_spec_ComposePhase F_impl_ComposePhase
  rw [s0, i0]
  simp only [Option.bind_some]
  cases b0 with
  | false =>
    simp only [gb, Bool.not_false, Bool.not_true, cond_false, Option.bind_some, Bool.true_or, cond_true]
    exact ⟨_, _, rfl, rfl, by decide, by decide⟩
  | true =>
    simp only [gb, Bool.not_false, Bool.not_true, cond_true, Bool.false_or]
    rw [s1, i1]
    simp only [Option.bind_some]
    cases b1 with
    | false =>
      simp only [Bool.not_false, Bool.true_or, cond_true]
      exact ⟨_, _, rfl, rfl, by decide, by decide⟩
    | true =>
      simp only [Bool.not_true, Bool.false_or]
      by_cases hq : a0.Qubits = a1.Qubits
      · have e : (a0.Qubits != a1.Qubits) = false := by simp [hq]
        rw [e]
        simp only [cond_false]
        obtain ⟨n, l, k0⟩ := p0 rfl
        obtain ⟨n', l', k1⟩ := p1 rfl
        obtain rfl : n' = n := by have := k0.1.2.2; have := k1.1.2.2; omega
        have t0 := terms_len k0
        have t1 := terms_len k1
        obtain ⟨B, S, f1, f2, f3⟩ := by_both k0 (g := F_impl_ComposePhase_l1 a0) (fun i x S hx => by
          unfold F_impl_ComposePhase_l1
          rw [getI_nat, hx]
          simp only [Option.bind_some]
          cases F_impl_coefficients_add S x.Mask x.Coef <;> rfl)
        rw [f1, chk_t (by omega), f2]
        simp only [Option.bind_some]
        rw [chk_t (by omega), chk_t (by omega)]
        obtain ⟨o0, ol, os, _, _, ov⟩ := k0.2.2.1
        obtain ⟨o0', ol', os', _, _, ov'⟩ := k1.2.2.1
        obtain ⟨B2, S2, g1, g2, g3⟩ := forN2_inv (f := F_spec_ComposePhase_l1 a1 a0) (g := F_impl_ComposePhase_l2 a1 a0) (fun i B S => Same (2 ^ n') (1000 + 28 * (i : Int)) B S) a1.Terms.length 0 B S (f3.mono (by omega)) (fun i B S _ hi hS => by
          have hx := List.getElem?_eq_getElem (show i < a1.Terms.length by omega)
          generalize a1.Terms[i] = x at hx
          obtain ⟨m, hm, m1, m2⟩ := mask_nat k1 hx
          have hc := k1.2.2.2.1 i x hx
          have ht := thr_lt ol k0.1.2.1 os m2
          obtain ⟨x', e1, e2, e3, e4⟩ := hS.add (by omega) (i := ((thr l m : Nat) : Int)) (d := x.Coef) (by omega) (by omega) ⟨by omega, by omega⟩
          refine ⟨_, _, ?_, ?_, e4.mono (by push_cast; omega)⟩
          · unfold F_spec_ComposePhase_l1
            rw [getI_nat, hx]
            simp only [Option.bind_some]
            rw [o0, hm, through_spec ol k0.1.2.1 os m2]
            simp only [Option.bind_some, e1]
          · unfold F_impl_ComposePhase_l2
            rw [getI_nat, hx]
            simp only [Option.bind_some]
            rw [o0, hm, through_impl ol k0.1.2.1 os m2]
            simp only [Option.bind_some, e2])
        rw [g1, g2]
        simp only [Option.bind_some]
        obtain ⟨L, l1, l2, l3⟩ := terms_eq g3 (by omega)
        rw [o0] at ov
        rw [o0'] at ov'
        obtain ⟨c1, c2⟩ := then_both ol k0.1.2.1 os ol' os' ov ov'
        rw [l1, l2, o0, o0', c1, c2]
        simp only [Option.bind_some]
        refine ⟨_, _, rfl, rfl, ?_, ?_⟩
        · simp only; omega
        · have := k0.1.2.1
          simp only [cI_len, List.length_map]; omega
      · have e : (a0.Qubits != a1.Qubits) = true := by simp [hq]
        rw [e]
        simp only [cond_true]
        exact ⟨_, _, rfl, rfl, by decide, by decide⟩

/-- The value of a cell. -/
def vM (l : List TDyadic) (C i j : Nat) : TRing := vOf (l.getD (i * C + j) dZero)
def BOk (code : List Int) : Prop := code.length ≤ 9223372036854775807 ∧ ∀ y ∈ code, U8 y
/-- A draw gives a value that P is true of, and goes on by at most n places. -/
def Dr {α : Type} (f : Tl1Cur → Option (α × Tl1Cur)) (P : α → Prop) (n : Nat) : Prop :=
  ∀ (code : List Int) (a s : Int) (k : Nat), BOk code → 0 ≤ a → a ≤ k → k + n ≤ 1000000000 → ∃ v a' s', f (Tl1Cur.mk code a s) = some (v, Tl1Cur.mk code a' s') ∧ P v ∧ 0 ≤ a' ∧ a' ≤ ((k + n : Nat) : Int)
theorem Dr.mono {α : Type} {f : Tl1Cur → Option (α × Tl1Cur)} {P P' : α → Prop} {n n' : Nat} (h : Dr f P n) (hP : ∀ v, P v → P' v) (hn : n ≤ n') : Dr f P' n' := fun code a s k hb h0 h1 h2 => by
  obtain ⟨v, a', s', e, p, q, r⟩ := h code a s k hb h0 h1 (by omega)
  exact ⟨v, a', s', e, hP v p, q, by omega⟩
theorem next_d : Dr F_spec_l1Cur_next (fun v => 0 ≤ v ∧ v ≤ 255) 1 := fun code a s k hb h0 h1 h2 => by
  obtain ⟨b1, b2⟩ := hb
  have hw : IntKind.i64.wrap (a + 1) = a + 1 := wrap_i64 ⟨by omega, by omega⟩
  have hrest : ∀ b : Int, 0 ≤ b ∧ b ≤ 255 → ∃ v a' s', (bif (decide ((IntKind.i64.wrap (a + 1)) ≤ (code.length : Int))) then (some ((b, (Tl1Cur.mk code (IntKind.i64.wrap (a + 1)) (IntKind.u64.wrap ((IntKind.u64.wrap ((IntKind.u64.wrap (s * 6364136223846793005)) + (IntKind.u64.wrap b))) + 1442695040888963407)))))) else (some (((IntKind.i64.wrap (bits .and .u64 (shrK .u64 (IntKind.u64.wrap ((IntKind.u64.wrap ((IntKind.u64.wrap (s * 6364136223846793005)) + (IntKind.u64.wrap b))) + 1442695040888963407)) 40) 255)), (Tl1Cur.mk code (IntKind.i64.wrap (a + 1)) (IntKind.u64.wrap ((IntKind.u64.wrap ((IntKind.u64.wrap (s * 6364136223846793005)) + (IntKind.u64.wrap b))) + 1442695040888963407))))))) = some (v, Tl1Cur.mk code a' s') ∧ (0 ≤ v ∧ v ≤ 255) ∧ 0 ≤ a' ∧ a' ≤ ((k + 1 : Nat) : Int) := fun b hb => by
    rw [hw]
    cases decide (a + 1 ≤ (code.length : Int)) with
    | true => exact ⟨_, _, _, rfl, hb, by omega, by omega⟩
    | false =>
      refine ⟨_, _, _, rfl, ?_, by omega, by omega⟩
      generalize hz : IntKind.u64.wrap ((IntKind.u64.wrap ((IntKind.u64.wrap (s * 6364136223846793005)) + (IntKind.u64.wrap b))) + 1442695040888963407) = z
      have key : ∃ m : Nat, bits .and .u64 (shrK .u64 z 40) 255 = (m : Int) ∧ m ≤ 255 := by
        have z0 : 0 ≤ z := by rw [← hz]; exact Int.emod_nonneg _ (by decide)
        have z1 : z < 18446744073709551616 := by rw [← hz]; exact Int.emod_lt_of_pos _ (by decide)
        obtain ⟨n, rfl⟩ : ∃ n : Nat, z = n := ⟨z.toNat, by omega⟩
        rw [show (40 : Int) = ((40 : Nat) : Int) from rfl, shr_u n 40 (by decide), show (255 : Int) = ((255 : Nat) : Int) from rfl, and_u (Nat.lt_of_le_of_lt (Nat.div_le_self _ _) (by omega)) (by decide)]
        exact ⟨_, rfl, Nat.and_le_right⟩
      obtain ⟨m, e, hm⟩ := key
      rw [e, wrap_i64 (a := (m : Int)) ⟨by omega, by omega⟩]
      omega
  unfold F_spec_l1Cur_next
  simp only
  by_cases hlt : a < (code.length : Int)
  · rw [decide_eq_true hlt]
    obtain ⟨x, hx, hx2⟩ := getI_at h0 hlt
    have := b2 x (List.mem_of_getElem? hx2)
    unfold U8 at this
    simp only [cond_true, hx, Option.bind_some]
    rw [wrap_i64 (a := x) ⟨by omega, by omega⟩]
    exact hrest x this
  · rw [decide_eq_false hlt]
    simp only [cond_false, Option.bind_some]
    exact hrest 0 ⟨by decide, by decide⟩
theorem pick_d (n : Int) (hn : n ≤ 1000000) : Dr (fun c => F_spec_l1Cur_pick c n) (fun v => 0 ≤ v ∧ (v < n ∨ v = 0)) 2 := fun code a s k hb h0 h1 h2 => by
  unfold F_spec_l1Cur_pick
  by_cases hle : n ≤ 1
  · rw [decide_eq_true hle]
    exact ⟨0, a, s, rfl, ⟨Int.le_refl 0, .inr rfl⟩, h0, by omega⟩
  · rw [decide_eq_false hle]
    obtain ⟨v, a', s', e, hv, a0, a1⟩ := next_d code a s k hb h0 h1 (by omega)
    simp only [cond_false]
    rw [e]
    simp only [Option.bind_some]
    have tmb : ∀ x : Int, 0 ≤ x → 0 ≤ Int.tmod x n ∧ (Int.tmod x n < n ∨ Int.tmod x n = 0) := fun x hx => ⟨Int.tmod_nonneg n hx, .inl (Int.tmod_lt_of_pos x (by omega))⟩
    by_cases hbig : 200 < n
    · rw [decide_eq_true hbig]
      obtain ⟨v2, a2, s2, e2, hv2, b0, b1⟩ := next_d code a' s' (k + 1) hb a0 a1 (by omega)
      simp only [cond_true]
      rw [e2]
      simp only [Option.bind_some]
      rw [chk_t (by omega), wrap_i64 (a := v * 256) ⟨by omega, by omega⟩, wrap_i64 (a := v * 256 + v2) ⟨by omega, by omega⟩]
      exact ⟨_, _, _, rfl, tmb _ (by omega), b0, by omega⟩
    · rw [decide_eq_false hbig]
      simp only [cond_false, Option.bind_some]
      rw [chk_t (by omega)]
      exact ⟨_, _, _, rfl, tmb _ hv.1, a0, by omega⟩
theorem one_d (n : Int) (hn : n ≤ 1000000) : Dr (fun c => F_spec_l1Cur_one c n) (fun _ => True) 2 := fun code a s k hb h0 h1 h2 => by
  obtain ⟨v, a', s', e, hv, a0, a1⟩ := pick_d n hn code a s k hb h0 h1 h2
  unfold F_spec_l1Cur_one
  simp only at e ⊢
  rw [e]
  exact ⟨_, _, _, rfl, trivial, a0, a1⟩
theorem among_d (l : List Int) (hl : 1 ≤ l.length ∧ l.length ≤ 1000) : Dr (fun c => F_spec_l1Cur_among c l) (fun v => v ∈ l) 2 := fun code a s k hb h0 h1 h2 => by
  obtain ⟨v, a', s', e, hv, a0, a1⟩ := pick_d (l.length : Int) (by omega) code a s k hb h0 h1 h2
  unfold F_spec_l1Cur_among
  simp only at e ⊢
  rw [e]
  obtain ⟨x, hx, hx2⟩ := getI_at (l := l) hv.1 (by omega)
  simp only [Option.bind_some, hx]
  exact ⟨_, _, _, rfl, List.mem_of_getElem? hx2, a0, a1⟩
theorem pick_lt {n v : Int} (h : 0 ≤ v ∧ (v < n ∨ v = 0)) (hn : 0 < n) : 0 ≤ v ∧ v < n := by omega
theorem ident_spec : ∀ n : Fin 6, F_spec_l12Identity (n.val : Int) = some (TLinear.mk (cI (idn n.val))) := by decide +kernel
theorem linear_d (n : Nat) (hn : 1 ≤ n ∧ n ≤ 5) : Dr (fun c => F_spec_l1Cur_linear c (n : Int)) (fun m => ∃ l, m = TLinear.mk (cI l) ∧ NOk n l) 40 := fun code a s k hb h0 h1 h2 => by
  unfold F_spec_l1Cur_linear
  have hid := ident_spec ⟨n, by omega⟩
  simp only at hid ⊢
  rw [hid]; simp only [Option.bind_some]
  obtain ⟨v1, a1, s1, e1, p1, q1, r1⟩ := pick_d 8 (by decide) code a s k hb h0 h1 (by omega)
  simp only at e1
  rw [e1]; simp only [Option.bind_some]
  have hs := whX_inv (f := F_spec_l1Cur_linear_l1 (n : Int) (Tl1Cur.mk code a s)) (fun t => ∃ l, t.2.2.1 = cI l ∧ NOk n l ∧ 0 ≤ t.2.2.2 ∧ t.2.2.2 ≤ 7 ∧ 0 ≤ t.1 ∧ t.1 + 4 * t.2.2.2 ≤ ((k + 30 : Nat) : Int)) (fun t => ∃ l, t.2.2.1 = cI l ∧ NOk n l ∧ 0 ≤ t.1 ∧ t.1 ≤ ((k + 30 : Nat) : Int)) (fun _ : TLinear × Tl1Cur => False) (fun t => t.2.2.2.toNat) (fun t ht => by
    obtain ⟨b1, z1, R, k_⟩ := t
    obtain ⟨l, t1, t2, t3, t4, t5, t6⟩ := ht
    simp only at t1 t3 t4 t5 t6
    subst t1
    unfold F_spec_l1Cur_linear_l1
    simp only
    by_cases hk : 0 < k_ ∧ 1 < (n : Int)
    · rw [decide_eq_true hk.1, decide_eq_true hk.2]
      simp only [Bool.and_self, cond_true]
      obtain ⟨v2, a2, s2, e2, p2, q2, r2⟩ := pick_d (n : Int) (by omega) code b1 z1 (k + 30) hb t5 (by omega) (by omega)
      simp only at e2
      rw [e2]; simp only [Option.bind_some]
      rw [wrap_i64 (a := (n : Int) - 1) ⟨by omega, by omega⟩]
      have r2' : a2 ≤ b1 + 2 := by
        obtain ⟨v2', a2', s2', e2', _, _, r2''⟩ := pick_d (n : Int) (by omega) code b1 z1 b1.toNat hb t5 (by omega) (by omega)
        simp only at e2'
        rw [e2'] at e2; cases e2; omega
      obtain ⟨v3, a3, s3, e3, p3, q3, r3⟩ := pick_d ((n : Int) - 1) (by omega) code a2 s2 a2.toNat hb q2 (by omega) (by omega)
      simp only at e3
      rw [e3]; simp only [Option.bind_some]
      have hv2 := pick_lt p2 (by omega)
      have hv3 := pick_lt p3 (by omega)
      rw [chk_t (by omega), wrap_i64 (a := v2 + 1) ⟨by omega, by omega⟩, wrap_i64 (a := v2 + 1 + v3) ⟨by omega, by omega⟩]
      have w0 : 0 ≤ Int.tmod (v2 + 1 + v3) (n : Int) := Int.tmod_nonneg _ (by omega)
      have w1 : Int.tmod (v2 + 1 + v3) (n : Int) < (n : Int) := Int.tmod_lt_of_pos _ (by omega)
      generalize Int.tmod (v2 + 1 + v3) (n : Int) = w at w0 w1
      obtain ⟨x, rfl⟩ : ∃ x : Nat, v2 = x := ⟨v2.toNat, by omega⟩
      obtain ⟨y, rfl⟩ : ∃ y : Nat, w = y := ⟨w.toNat, by omega⟩
      obtain ⟨l', c1, c2, _⟩ := cxN t2 hn.2 (show x < n by omega) (show y < n by omega)
      rw [c2]; simp only [Option.bind_some]
      rw [wrap_i64 (a := k_ - 1) ⟨by omega, by omega⟩]
      exact .inl ⟨_, rfl, ⟨l', rfl, c1, by simp only; omega, by simp only; omega, q3, by simp only; omega⟩, by simp only; omega⟩
    · have e : (decide (0 < k_) && decide (1 < (n : Int))) = false := by
        simp only [Bool.and_eq_false_iff, decide_eq_false_iff_not]; omega
      rw [e]
      exact .inr (.inl ⟨_, rfl, l, rfl, t2, t5, by simp only; omega⟩)) fuel (a1, s1, cI (idn n), v1) ⟨idn n, rfl, idn_ok n, by simp only; omega, by simp only; omega, q1, by simp only; omega⟩ (fuelB (by simp only; omega))
  rcases hs with ⟨⟨b1, z1, R, k_⟩, w1, l, w2, w3, w4, w5⟩ | ⟨r, _, hr⟩
  · rw [w1]
    simp only at w2 w4 w5
    subst w2
    exact ⟨_, _, _, rfl, ⟨l, rfl, w3⟩, w4, by first | omega | (simp only; omega)⟩
  · exact hr.elim
theorem l13List_tot {by_ : List Int} (h : by_.length ≤ 1000) : ∃ T, F_spec_l13List by_ = some T ∧ T.length ≤ by_.length := by
  unfold F_spec_l13List
  rw [chk_t (by omega)]
  obtain ⟨T, h1, h2⟩ := forN_inv (f := F_spec_l13List_l1 by_) (fun i T => T.length ≤ i) by_.length 0 [] (Nat.le_refl 0) (fun i T _ hi hT => by
    unfold F_spec_l13List_l1
    rw [getI_nat, List.getElem?_eq_getElem (show i < by_.length by omega)]
    simp only [Option.bind_some]
    cases (decide (0 < (i : Int))) && (decide (0 < (Int.tmod (IntKind.i64.wrap ((Int.tmod by_[i] 8) + 8)) 8))) with
    | true =>
      simp only [cond_true]
      rw [chk_t (by omega)]
      exact ⟨_, rfl, by simp; omega⟩
    | false => exact ⟨_, rfl, by omega⟩)
  rw [h1]
  exact ⟨T, rfl, by omega⟩
theorem phasePoly_d (n : Nat) (hn : 1 ≤ n ∧ n ≤ 5) : Dr (fun c => F_spec_l1Cur_phasePoly c (n : Int)) (fun p => p.Qubits = (n : Int) ∧ p.Terms.length ≤ 32 ∧ p.Out.Rows.length = n) 200 := fun code a s k hb h0 h1 h2 => by
  have hq : 1 ≤ (n : Int) ∧ (n : Int) ≤ 5 := by omega
  obtain ⟨s1', s2', s3', s4', s5', s6'⟩ := shl_small hq
  rw [Int.toNat_natCast] at s2' s3' s4' s5' s6'
  unfold F_spec_l1Cur_phasePoly
  simp only
  rw [chk_t s1', s2', chk_t ⟨by omega, by omega⟩, Int.toNat_natCast]
  obtain ⟨v1, a1, s1, e1, p1, q1, r1⟩ := pick_d 6 (by decide) code a s k hb h0 h1 (by omega)
  simp only at e1
  rw [e1]; simp only [Option.bind_some]
  have hs := whX_inv (f := F_spec_l1Cur_phasePoly_l1 (Tl1Cur.mk code a s) (n : Int)) (fun t => t.2.2.1.length = 2 ^ n ∧ 0 ≤ t.2.2.2 ∧ t.2.2.2 ≤ 5 ∧ 0 ≤ t.1 ∧ t.1 + 4 * t.2.2.2 ≤ ((k + 22 : Nat) : Int)) (fun t => t.2.2.1.length = 2 ^ n ∧ 0 ≤ t.1 ∧ t.1 ≤ ((k + 22 : Nat) : Int)) (fun _ : TPhasePoly × Tl1Cur => False) (fun t => t.2.2.2.toNat) (fun t ht => by
    obtain ⟨b1, z1, R, k_⟩ := t
    obtain ⟨t1, t3, t4, t5, t6⟩ := ht
    simp only at t1 t3 t4 t5 t6
    unfold F_spec_l1Cur_phasePoly_l1
    simp only
    by_cases hk : 0 < k_
    · rw [decide_eq_true hk]
      simp only [cond_true]
      rw [s2', Int.toNat_natCast]
      obtain ⟨v2, a2, s2, e2, p2, q2, r2⟩ := pick_d ((2 ^ n : Nat) : Int) (by omega) code b1 z1 b1.toNat hb t5 (by omega) (by omega)
      simp only at e2
      rw [e2]; simp only [Option.bind_some]
      obtain ⟨v3, a3, s3, e3, p3, q3, r3⟩ := pick_d 8 (by decide) code a2 s2 a2.toNat hb q2 (by omega) (by omega)
      simp only at e3
      rw [e3]; simp only [Option.bind_some]
      obtain ⟨x, hx, _⟩ := getI_at (l := R) p2.1 (by omega)
      rw [hx]; simp only [Option.bind_some]
      rw [wrap_i64 (a := k_ - 1) ⟨by omega, by omega⟩]
      exact .inl ⟨_, rfl, ⟨by simp only [List.length_set]; exact t1, by simp only; omega, by simp only; omega, q3, by simp only; omega⟩, by simp only; omega⟩
    · rw [decide_eq_false hk]
      exact .inr (.inl ⟨_, rfl, t1, t5, by simp only; omega⟩)) fuel (a1, s1, List.replicate (2 ^ n) 0, v1) ⟨by simp, by simp only; omega, by simp only; omega, q1, by simp only; omega⟩ (fuelB (by simp only; omega))
  rcases hs with ⟨⟨b1, z1, R, k_⟩, w1, w2, w4, w5⟩ | ⟨r, _, hr⟩
  · rw [w1]
    simp only at w2 w4 w5
    simp only [Option.bind_some, orR]
    obtain ⟨v2, a2, s2, e2, p2, q2, r2⟩ := one_d 6 (by decide) code b1 z1 (k + 22) hb w4 w5 (by omega)
    simp only at e2
    rw [e2]; simp only [Option.bind_some]
    have mid_ : ∃ (a3 z3 : Int) (R3 : List Int), (bif v2 then (chk (2 ^ n ≤ 9223372036854775807) <| (forN (F_spec_l1Cur_phasePoly_l2 (Tl1Cur.mk code a s) b1 z1) (2 ^ n) 0 (a2, s2, R)).bind fun (at_2, seed2, by_2) => some (at_2, seed2, by_2)) else (some (a2, s2, R)) : Option (Int × Int × List Int)) = some (a3, z3, R3) ∧ R3.length = 2 ^ n ∧ 0 ≤ a3 ∧ a3 ≤ ((k + 24 + 64 : Nat) : Int) := by
      cases v2 with
      | false => exact ⟨_, _, _, rfl, w2, q2, by omega⟩
      | true =>
        simp only [cond_true]
        rw [chk_t (by omega)]
        obtain ⟨⟨a3, z3, R3⟩, f1, f2, f3, f4⟩ := forN_inv (f := F_spec_l1Cur_phasePoly_l2 (Tl1Cur.mk code a s) b1 z1) (fun i t => t.2.2.length = 2 ^ n ∧ 0 ≤ t.1 ∧ t.1 ≤ ((k + 24 + 2 * i : Nat) : Int)) (2 ^ n) 0 (a2, s2, R) ⟨w2, q2, by simp only; omega⟩ (fun i t _ hi ⟨t1, t2, t3⟩ => by
          obtain ⟨c1, c2, c3⟩ := t
          simp only at t1 t2 t3
          unfold F_spec_l1Cur_phasePoly_l2
          simp only
          obtain ⟨v3, a3, s3, e3, p3, q3, r3⟩ := pick_d 8 (by decide) code c1 c2 (k + 24 + 2 * i) hb t2 t3 (by omega)
          simp only at e3
          rw [e3]; simp only [Option.bind_some]
          obtain ⟨x, hx, _⟩ := getI_at (l := c3) (i := (i : Int)) (by omega) (by omega)
          rw [hx]; simp only [Option.bind_some]
          exact ⟨_, rfl, by simp only [List.length_set]; exact t1, q3, by simp only; omega⟩)
        simp only at f2 f3 f4
        rw [f1]
        exact ⟨_, _, _, rfl, f2, f3, by omega⟩
    obtain ⟨a3, z3, R3, m1, m2, m3, m4⟩ := mid_
    rw [m1]; simp only [Option.bind_some]
    obtain ⟨v4, a4, s4, e4, p4, q4, r4⟩ := pick_d 8 (by decide) code a3 z3 (k + 24 + 64) hb m3 m4 (by omega)
    simp only at e4
    rw [e4]; simp only [Option.bind_some]
    obtain ⟨T, T1, T2⟩ := l13List_tot (by_ := R3) (by omega)
    rw [T1]; simp only [Option.bind_some]
    obtain ⟨v5, a5, s5, e5, ⟨l, rfl, hl⟩, q5, r5⟩ := linear_d n hn code a4 s4 (k + 24 + 64 + 2) hb q4 r4 (by omega)
    simp only at e5
    rw [e5]
    exact ⟨_, _, _, rfl, ⟨rfl, by simp only; omega, by simp only [cI_len]; exact hl.1⟩, q5, by first | omega | (simp only; omega)⟩
  · exact hr.elim
theorem anyLinear_d : Dr F_spec_l1Cur_anyLinear (fun m => m.Rows.length ≤ 6) 60 := fun code a s k hb h0 h1 h2 => by
  unfold F_spec_l1Cur_anyLinear
  obtain ⟨v1, a1, s1, e1, p1, q1, r1⟩ := pick_d 5 (by decide) code a s k hb h0 h1 (by omega)
  simp only at e1 ⊢
  rw [e1]; simp only [Option.bind_some]
  obtain ⟨x, rfl⟩ : ∃ x : Nat, v1 = x := ⟨v1.toNat, by omega⟩
  rw [wrap_i64 (a := 1 + (x : Int)) ⟨by omega, by omega⟩, show (1 : Int) + (x : Int) = ((1 + x : Nat) : Int) by omega]
  obtain ⟨v2, a2, s2, e2, ⟨l, rfl, hl⟩, q2, r2⟩ := linear_d (1 + x) ⟨by omega, by omega⟩ code a1 s1 (k + 2) hb q1 r1 (by omega)
  simp only at e2
  rw [e2]; simp only [Option.bind_some]
  have hll : (cI l).length = 1 + x := by rw [cI_len]; exact hl.1
  obtain ⟨v3, a3, s3, e3, p3, q3, r3⟩ := pick_d 12 (by decide) code a2 s2 (k + 2 + 40) hb q2 r2 (by omega)
  simp only at e3
  rw [e3]; simp only [Option.bind_some]
  cases v3 == 0 with
  | true =>
    simp only [cond_true]
    obtain ⟨v4, a4, s4, e4, p4, q4, r4⟩ := among_d [(-1), 0, 31, 32, 3] (by decide) code a3 s3 (k + 2 + 40 + 2) hb q3 r3 (by omega)
    simp only at e4
    rw [e4]; simp only [Option.bind_some]
    obtain ⟨y, hy, _⟩ := getI_at (l := cI l) (i := 0) (by omega) (by omega)
    rw [hy]
    exact ⟨_, _, _, rfl, by simp only [List.length_set]; omega, q4, by first | omega | (simp only; omega)⟩
  | false =>
    cases v3 == 1 with
    | true =>
      simp only [cond_true, cond_false]
      obtain ⟨v4, a4, s4, e4, p4, q4, r4⟩ := pick_d 70 (by decide) code a3 s3 (k + 2 + 40 + 2) hb q3 r3 (by omega)
      simp only at e4
      rw [e4]; simp only [Option.bind_some]
      rw [chk_t (by omega)]
      exact ⟨_, _, _, rfl, by simp only [List.length_append, List.length_singleton]; omega, q4, by first | omega | (simp only; omega)⟩
    | false =>
      cases v3 == 2 with
      | true =>
        simp only [cond_true, cond_false]
        rw [chk_t (by omega)]
        exact ⟨_, _, _, rfl, by simp only [List.length_drop]; omega, q3, by first | omega | (simp only; omega)⟩
      | false =>
        simp only [cond_false]
        exact ⟨_, _, _, rfl, by simp only; omega, q3, by first | omega | (simp only; omega)⟩
theorem anyPhasePoly_d : Dr F_spec_l1Cur_anyPhasePoly (fun p => p.Terms.length ≤ 33 ∧ p.Out.Rows.length ≤ 6) 300 := fun code a s k hb h0 h1 h2 => by
  unfold F_spec_l1Cur_anyPhasePoly
  obtain ⟨v1, a1, s1, e1, p1, q1, r1⟩ := pick_d 5 (by decide) code a s k hb h0 h1 (by omega)
  simp only at e1 ⊢
  rw [e1]; simp only [Option.bind_some]
  obtain ⟨x, rfl⟩ : ∃ x : Nat, v1 = x := ⟨v1.toNat, by omega⟩
  rw [wrap_i64 (a := 1 + (x : Int)) ⟨by omega, by omega⟩, show (1 : Int) + (x : Int) = ((1 + x : Nat) : Int) by omega]
  obtain ⟨v2, a2, s2, e2, ⟨_, hT, hR⟩, q2, r2⟩ := phasePoly_d (1 + x) ⟨by omega, by omega⟩ code a1 s1 (k + 2) hb q1 r1 (by omega)
  simp only at e2
  rw [e2]; simp only [Option.bind_some]
  obtain ⟨v3, a3, s3, e3, p3, q3, r3⟩ := pick_d 16 (by decide) code a2 s2 (k + 2 + 200) hb q2 r2 (by omega)
  simp only at e3
  rw [e3]; simp only [Option.bind_some]
  cases v3 == 0 with
  | true =>
    simp only [cond_true]
    obtain ⟨v4, a4, s4, e4, p4, q4, r4⟩ := among_d [(-1), 8, 0] (by decide) code a3 s3 (k + 2 + 200 + 2) hb q3 r3 (by omega)
    simp only at e4
    rw [e4]
    exact ⟨_, _, _, rfl, ⟨by simp only; omega, by simp only; omega⟩, q4, by first | omega | (simp only; omega)⟩
  | false =>
    cases v3 == 1 with
    | true =>
      simp only [cond_true, cond_false]
      obtain ⟨v4, a4, s4, e4, p4, q4, r4⟩ := pick_d 33 (by decide) code a3 s3 (k + 2 + 200 + 2) hb q3 r3 (by omega)
      simp only at e4
      rw [e4]; simp only [Option.bind_some]
      obtain ⟨v5, a5, s5, e5, p5, q5, r5⟩ := pick_d 9 (by decide) code a4 s4 (k + 2 + 200 + 2 + 2) hb q4 r4 (by omega)
      simp only at e5
      rw [e5]; simp only [Option.bind_some]
      rw [chk_t (by omega)]
      exact ⟨_, _, _, rfl, ⟨by simp only [List.length_append, List.length_singleton]; omega, by simp only; omega⟩, q5, by first | omega | (simp only; omega)⟩
    | false =>
      cases v3 == 2 with
      | true =>
        simp only [cond_true, cond_false]
        obtain ⟨v4, a4, s4, e4, p4, q4, r4⟩ := anyLinear_d code a3 s3 (k + 2 + 200 + 2) hb q3 r3 (by omega)
        rw [e4]
        exact ⟨_, _, _, rfl, ⟨by simp only; omega, by simp only; omega⟩, q4, by first | omega | (simp only; omega)⟩
      | false =>
        cases v3 == 3 with
        | true =>
          simp only [cond_true, cond_false]
          obtain ⟨v4, a4, s4, e4, p4, q4, r4⟩ := pick_d 7 (by decide) code a3 s3 (k + 2 + 200 + 2) hb q3 r3 (by omega)
          simp only at e4
          rw [e4]
          exact ⟨_, _, _, rfl, ⟨by simp only; omega, by simp only; omega⟩, q4, by first | omega | (simp only; omega)⟩
        | false =>
          simp only [cond_false]
          exact ⟨_, _, _, rfl, ⟨by simp only; omega, by simp only; omega⟩, q3, by first | omega | (simp only; omega)⟩

theorem drawCompose {code : List Int} (hb : BOk code) : ∃ A B, F_spec_DrawComposePhase code = some (A, B) ∧ (A.Terms.length ≤ 33 ∧ A.Out.Rows.length ≤ 6) ∧ B.Terms.length ≤ 33 ∧ B.Out.Rows.length ≤ 6 := by
  unfold F_spec_DrawComposePhase
  obtain ⟨v1, a1, s1, e1, p1, q1, r1⟩ := pick_d 5 (by decide) code 0 0 0 hb (by decide) (by decide) (by decide)
  simp only at e1 ⊢
  rw [e1]; simp only [Option.bind_some]
  obtain ⟨x, rfl⟩ : ∃ x : Nat, v1 = x := ⟨v1.toNat, by omega⟩
  rw [wrap_i64 (a := 1 + (x : Int)) ⟨by omega, by omega⟩, show (1 : Int) + (x : Int) = ((1 + x : Nat) : Int) by omega]
  obtain ⟨v2, a2, s2, e2, ⟨_, hT, hR⟩, q2, r2⟩ := phasePoly_d (1 + x) ⟨by omega, by omega⟩ code a1 s1 2 hb q1 r1 (by omega)
  simp only at e2
  rw [e2]; simp only [Option.bind_some]
  obtain ⟨v3, a3, s3, e3, p3, q3, r3⟩ := one_d 8 (by decide) code a2 s2 (2 + 200) hb q2 r2 (by omega)
  simp only at e3
  rw [e3]; simp only [Option.bind_some]
  cases v3 with
  | true =>
    simp only [cond_true]
    obtain ⟨v4, a4, s4, e4, p4, q4, r4⟩ := anyPhasePoly_d code a3 s3 (2 + 200 + 2) hb q3 r3 (by omega)
    rw [e4]
    exact ⟨_, _, rfl, ⟨by omega, by omega⟩, p4⟩
  | false =>
    simp only [cond_false]
    obtain ⟨v4, a4, s4, e4, ⟨_, hT', hR'⟩, q4, r4⟩ := phasePoly_d (1 + x) ⟨by omega, by omega⟩ code a3 s3 (2 + 200 + 2) hb q3 r3 (by omega)
    simp only at e4
    rw [e4]
    exact ⟨_, _, rfl, ⟨by omega, by omega⟩, by simp only; omega, by simp only; omega⟩
theorem qInts_self {l : List Int} (h : l.length ≤ 9223372036854775807) : F_laws_qInts l l = some true := by
  unfold F_laws_qInts
  rw [show ((l.length : Int) != (l.length : Int)) = false from bne_self_eq_false _]
  simp only [cond_false]
  rw [chk_t h, forX_pass (f := F_laws_qInts_l1 l l) (n := l.length) (s := ()) (fun i hi => by
    unfold F_laws_qInts_l1
    rw [getI_nat, List.getElem?_eq_getElem hi]
    simp only [Option.bind_some, bne_self_eq_false, cond_false])]
  rfl
theorem qTerms_self {l : List TTerm} (h : l.length ≤ 9223372036854775807) : F_laws_qTerms l l = some true := by
  unfold F_laws_qTerms
  rw [show ((l.length : Int) != (l.length : Int)) = false from bne_self_eq_false _]
  simp only [cond_false]
  rw [chk_t h, forX_pass (f := F_laws_qTerms_l1 l l) (n := l.length) (s := ()) (fun i hi => by
    unfold F_laws_qTerms_l1
    rw [getI_nat, List.getElem?_eq_getElem hi]
    simp only [Option.bind_some, beq_self_eq_true, Bool.and_self, Bool.not_true, cond_false])]
  rfl
theorem qPoly_self {p : TPhasePoly} (h1 : p.Terms.length ≤ 9223372036854775807) (h2 : p.Out.Rows.length ≤ 9223372036854775807) : F_laws_qPoly p p = some true := by
  unfold F_laws_qPoly
  simp only [beq_self_eq_true, Bool.and_self, gb, cond_true]
  rw [qTerms_self h1]
  simp only [Option.bind_some, Bool.and_self, cond_true]
  rw [qInts_self h2]
  rfl
theorem qw_small : ∀ x : Fin 32, F_laws_qWeight (x.val : Int) = some (((setW x.val 32).length : Nat) : Int) := by decide +kernel
theorem middle_eq {p : TPhasePoly} {n : Nat} {l : List Nat} (h : PolyOk p n l) {x : Nat} (hx : x < 2 ^ n) : forN (F_laws_FnPhaseAlgebra_l2 p x) p.Out.Rows.length 0 0 = some ((mid l x n : Nat) : Int) := by
  have hn := h.1.2.1
  have h32 := pow32 hn
  obtain ⟨o0, ol, os, _⟩ := h.2.2.1
  rw [o0]
  simp only [cI_len]
  obtain ⟨z, h1, h2⟩ := forN_inv (f := F_laws_FnPhaseAlgebra_l2 p x) (fun i z => z = ((mid l x i : Nat) : Int)) l.length 0 0 rfl (fun i z _ hi hz => by
    have hil : i < l.length := by omega
    have hlt := getD_lt os i
    have hm := mid_lt l x i
    have hm2 : 2 ^ i ≤ 2 ^ 5 := Nat.pow_le_pow_right (by decide) (by omega)
    have hp := pn_lt (l.getD i 0 &&& x)
    refine ⟨_, ?_, rfl⟩
    unfold F_laws_FnPhaseAlgebra_l2
    rw [o0]
    simp only
    rw [cI_get (getD_nat hil)]
    simp only [Option.bind_some]
    have ha := and32 x (show l.getD i 0 < 32 by omega)
    rw [and_i (by omega) (by omega), qw_small ⟨_, ha⟩]
    simp only [Option.bind_some]
    rw [wru' (show i < 1000 by omega), chk_t (by omega), hz]
    rw [show Int.tmod (((setW (l.getD i 0 &&& x) 32).length : Nat) : Int) 2 = ((pn (l.getD i 0 &&& x) : Nat) : Int) from rfl]
    have hsh : shlK .i64 ((pn (l.getD i 0 &&& x) : Nat) : Int) (i : Int) = ((pn (l.getD i 0 &&& x) <<< i : Nat) : Int) := by
      rw [shl_i (by omega) (by
        have := Nat.mul_le_mul (show pn (l.getD i 0 &&& x) ≤ 1 by omega) hm2
        omega), Nat.shiftLeft_eq]
    have hsl : pn (l.getD i 0 &&& x) <<< i ≤ 32 := by
      rw [Nat.shiftLeft_eq]
      have := Nat.mul_le_mul (show pn (l.getD i 0 &&& x) ≤ 1 by omega) hm2
      omega
    rw [hsh, or_i (by omega) (by omega)]
    rfl)
  rw [h1, h2, Nat.zero_add, ol]
theorem law_FnPhaseAlgebra (a0 a1 : List Int) (o0 : a0.length ≤ 9223372036854775807 ∧ ∀ y ∈ a0, U8 y) (o1 : a1.length ≤ 9223372036854775807 ∧ ∀ y ∈ a1, U8 y) : F_laws_FnPhaseAlgebra a0 a1 = some true := by
  unfold F_laws_FnPhaseAlgebra
  cases hbig : decide (1048576 < (IntKind.i64.wrap ((a0.length : Int) + (a1.length : Int)))) with
  | true => rfl
  | false =>
    simp only [cond_false]
    obtain ⟨A, B, hd, ⟨lA, rA⟩, lB, rB⟩ := drawCompose (code := a0) o0
    rw [hd]; simp only [Option.bind_some]
    obtain ⟨x, ok, s1, i1, x1, x2⟩ := comp_both A B (by omega) (by omega) (by omega) (by omega)
    rw [i1, s1]; simp only [Option.bind_some, beq_self_eq_true, Bool.not_true, Bool.not_false, gb, cond_true]
    rw [qPoly_self (by omega) (by omega)]
    simp only [Option.bind_some, Bool.not_true, Bool.or_self, cond_false]
    cases ok with
    | false => rfl
    | true =>
      simp only [Bool.not_true, cond_false]
      obtain ⟨bA, _, vA, pA⟩ := poly_both (p := A) (by omega) (by omega)
      obtain ⟨bB, _, vB, pB⟩ := poly_both (p := B) (by omega) (by omega)
      have hval : bA = true ∧ bB = true ∧ A.Qubits = B.Qubits := by
        have hi := i1
        unfold F_impl_ComposePhase at hi
        rw [vA] at hi
        simp only [Option.bind_some] at hi
        cases bA with
        | false => simp [gb] at hi
        | true =>
          simp only [gb, Bool.not_true, Bool.not_false, cond_true] at hi
          rw [vB] at hi
          simp only [Option.bind_some] at hi
          cases bB with
          | false => simp at hi
          | true =>
            refine ⟨rfl, rfl, ?_⟩
            by_cases hq : A.Qubits = B.Qubits
            · exact hq
            · have e : (A.Qubits != B.Qubits) = true := by simp [hq]
              rw [e] at hi
              simp at hi
      obtain ⟨rfl, rfl, hQ⟩ := hval
      obtain ⟨n, l, kA⟩ := pA rfl
      obtain ⟨n', l', kB⟩ := pB rfl
      obtain rfl : n' = n := by have := kA.1.2.2; have := kB.1.2.2; omega
      obtain ⟨m, c1, kM, vM, phM, fM⟩ := comp_val kA kB vA vB
      rw [i1] at c1; cases c1
      obtain ⟨b, lb, b1, kB', vB', hinv, phB, fB⟩ := inv_val kM vM
      obtain ⟨s, c2, kS, vS, phS', fS⟩ := comp_val kM kB' vM vB'
      have hn := kA.1.2.1
      have h32 := pow32 hn
      rw [b1]; simp only [Option.bind_some]
      rw [c2]; simp only [Option.bind_some]
      have hQx : x.Qubits = ((n' : Nat) : Int) := kM.1.2.2
      have hid := ident_eq ⟨n', by omega⟩
      simp only at hid
      unfold F_impl_IdentityLinear
      rw [hQx, in_eq, decide_eq_true (show (1 : Int) ≤ (n' : Int) by have := kA.1.1; omega), decide_eq_true (show (n' : Int) ≤ 5 by omega)]
      simp only [Option.bind_some, Bool.and_self, Bool.not_true, cond_false, hid, Bool.or_self, Bool.not_false, cond_true, Bool.false_or]
      have hrows : s.Out.Rows = cI (idn n') := by
        rw [kS.2.2.1.1]; simp only; rw [hinv]
      rw [hrows, qInts_self (by rw [cI_len, (idn_ok n').1]; omega)]
      simp only [Option.bind_some, Bool.not_true, Bool.not_false, cond_true, Bool.or_self]
      rw [vM]
      simp only [Option.bind_some, Bool.not_true, cond_false]
      have hq : 1 ≤ ((n' : Nat) : Int) ∧ ((n' : Nat) : Int) ≤ 5 := by have := kA.1; omega
      obtain ⟨s1', s2', s3', s4', s5', s6'⟩ := shl_small hq
      rw [Int.toNat_natCast] at s2' s3' s4' s5' s6'
      rw [s2', Int.toNat_natCast, chk_t (by omega)]
      rw [forX_pass (f := F_laws_FnPhaseAlgebra_l1 A B x s) (n := 2 ^ n') (s := ()) (fun i hi => by
        have hmid := mid_lt l i n'
        obtain ⟨oA, olA, osA, _⟩ := kA.2.2.1
        unfold F_laws_FnPhaseAlgebra_l1
        rw [phase_at kA vA hi]
        simp only [Option.bind_some]
        rw [chk_t (by omega), middle_eq kA hi]
        simp only [Option.bind_some]
        rw [phase_at kB vB hmid]
        simp only [Option.bind_some]
        rw [phase_at kM vM hi]
        simp only [Option.bind_some]
        rw [phase_at kS vS hi]
        simp only [Option.bind_some]
        obtain ⟨q1, hq1⟩ := fM (phS i) (phS_zero i)
        obtain ⟨q2, hq2⟩ := fS (phS i) (phS_zero i)
        have e1 : termS (fun m => phS i (thr l m)) B.Terms = termS (phS (mid l i n')) B.Terms := termS_congr fun y hy => by
          obtain ⟨m, hm, _, m2⟩ := poly_mask kB y hy
          rw [hm, Int.toNat_natCast]
          unfold phS
          rw [thr_mid ⟨olA, osA⟩ hn i m2]
        have hz : phS i (thr (l'.map (thr l)) 0) = 0 := by rw [thr_zero, phS_zero]
        obtain ⟨q3, hq3⟩ := fB (fun m => phS i (thr (l'.map (thr l)) m)) hz
        have nM : NOk n' (l'.map (thr l)) := ⟨kM.2.2.1.2.1, kM.2.2.1.2.2.1⟩
        have nb : NOk n' lb := ⟨kB'.2.2.1.2.1, kB'.2.2.1.2.2.1⟩
        have e2 : termS (fun m => phS i (thr (l'.map (thr l)) (thr lb m))) x.Terms = termS (phS i) x.Terms := termS_congr fun y hy => by
          obtain ⟨m, hm, _, m2⟩ := poly_mask kM y hy
          rw [hm, Int.toNat_natCast, thr_thr nM nb hn hinv m2]
        rw [e1] at hq1
        have pA' := kA.2.1
        have pB'' := kB.2.1
        have z1 : (s.Phase + termS (phS i) s.Terms) % 8 = 0 := by
          rw [phS', phB, hq2]
          try simp only at hq3
          rw [hq3, e2]
          omega
        have z2 : (x.Phase + termS (phS i) x.Terms) % 8 = Int.tmod (IntKind.i64.wrap ((A.Phase + termS (phS i) A.Terms) % 8 + (B.Phase + termS (phS (mid l i n')) B.Terms) % 8)) 8 := by
          rw [wrap_i64 ⟨by omega, by omega⟩, Int.tmod_eq_emod_of_nonneg (by omega), phM, hq1]
          omega
        rw [z1, ← z2]
        simp only [Bool.not_true, Bool.or_self, bne_self_eq_false, cond_false])]
      rfl
end Go.VK
