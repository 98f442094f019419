/- The plain law of FnBloch: what its Lean function answers, for all arguments. -/
import Derived.Test.YtmonoeihfeikeaaGreatDoorLBlochLaw1
set_option maxRecDepth 10000
set_option maxHeartbeats 1000000
set_option linter.unusedSimpArgs false
set_option linter.unusedVariables false
namespace Go.VK
theorem gram_step {n E : Nat} (hn : 1 ≤ n ∧ n ≤ 5) {g : TGate} (hg : gOk n g = true) {l l' : List TDyadic} (ol : okD l) (h : mmO (gL n g) l (2 ^ n) (2 ^ n) E = some l') {j m : Nat} (hj : j < E) (hm : m < E) : gram l' (2 ^ n) E j m = gram l (2 ^ n) E j m := by
 obtain ⟨_, _, og, lg⟩ := gate_both hn hg
 obtain ⟨m1, m2, m3⟩ := mm_val og ol h
 refine it_inj 120 ?_
 unfold gram
 rw [it_sum]
 have e1 : ∀ i, i < 2 ^ n → rIt 120 (aSq (vM l' E i j) (vM l' E i m)) = eSum (2 ^ n) (fun p => eSum (2 ^ n) (fun q => eMul (aSq (vM (gL n g) (2 ^ n) i p) (vM (gL n g) (2 ^ n) i q)) (aSq (vM l E p j) (vM l E q m)))) := fun i hi => by
  have : rIt 120 (aSq (vM l' E i j) (vM l' E i m)) = aSq (rIt 60 (vM l' E i j)) (rIt 60 (vM l' E i m)) := (aSq_it 60 60 _ _).symm
  rw [this, m3 i j hi hj, m3 i m hi hm]
  unfold aSq
  rw [conj_sum, sum_sum_mul]
  refine eSum_congr fun p _ => eSum_congr fun q _ => ?_
  rw [← conj_mul]
  generalize vM (gL n g) (2 ^ n) i p = a
  generalize vM l E p j = b
  generalize rConj (vM (gL n g) (2 ^ n) i q) = c
  generalize rConj (vM l E q m) = d
  rw [eMul_assoc, eMul_assoc, ← eMul_assoc b c d, eMul_comm b c, eMul_assoc c b d]
 rw [eSum_congr e1, eSum_swap]
 rw [eSum_congr (g := fun p => rIt 120 (aSq (vM l E p j) (vM l E p m))) (fun p hp => by
  rw [eSum_swap]
  have e2 : ∀ q, q < 2 ^ n → eSum (2 ^ n) (fun i => eMul (aSq (vM (gL n g) (2 ^ n) i p) (vM (gL n g) (2 ^ n) i q)) (aSq (vM l E p j) (vM l E q m))) = if p = q then rIt 120 (aSq (vM l E p j) (vM l E q m)) else rZero := fun q hq => by
   rw [← sum_mul, gate_uni hn hg hp hq]
   by_cases hpq : p = q
   ·rw [if_pos hpq, if_pos hpq, it_mul, one_mul']
   ·rw [if_neg hpq, if_neg hpq, zero_mul']
  rw [eSum_congr e2, eSum_one (s := p) hp (fun q _ hqp => if_neg (fun h => hqp h.symm)), if_pos rfl])]
 exact (it_sum 120 _ _).symm
theorem gate_d (n : Nat) (hn : 1 ≤ n ∧ n ≤ 6) (kinds : List Int) (hk : 1 ≤ kinds.length ∧ kinds.length ≤ 1000) (hr : ∀ x ∈ kinds, 1 ≤ x ∧ x ≤ 12) : Dr (fun c => F_spec_l1Cur_gate c (n : Int) kinds) (fun g => gOk n g = true) 8 := fun code a s k hb h0 h1 h2 => by
 unfold F_spec_l1Cur_gate
 obtain ⟨v1, a1, s1, e1, p1, q1, r1⟩ := pick_d (kinds.length : Int) (by omega) code a s k hb h0 h1 (by omega)
 simp only at e1 ⊢
 rw [e1]; simp only [Option.bind_some]
 obtain ⟨x, hx, hx2⟩ := getI_at (l := kinds) (i := v1) p1.1 (by omega)
 have hxr := hr x (List.mem_of_getElem? hx2)
 rw [hx]; simp only [Option.bind_some]
 by_cases h12 : x = 12
 ·subst h12
  simp only [beq_self_eq_true, cond_true]
  exact ⟨_, _, _, rfl, by unfold gOk; simp, q1, by first | omega | (simp only; omega)⟩
 ·have e12 : (x == 12) = false := by simp [h12]
  rw [e12]
  simp only [cond_false]
  obtain ⟨v2, a2, s2, e2, p2, q2, r2⟩ := pick_d (n : Int) (by omega) code a1 s1 (k + 2) hb q1 r1 (by omega)
  simp only at e2
  rw [e2]; simp only [Option.bind_some]
  unfold F_spec_l1In
  simp only [Option.bind_some]
  by_cases h9 : 9 ≤ x ∧ x ≤ 11
  ·rw [decide_eq_true h9.1, decide_eq_true h9.2]
   simp only [Bool.and_self, cond_true]
   by_cases hn1 : n = 1
   ·subst hn1
    simp only [beq_self_eq_true, cond_true, Option.bind_some, orR, show (((1 : Nat) : Int) == 1) = true from rfl]
    exact ⟨_, _, _, rfl, by unfold gOk; simp, q2, by first | omega | (simp only; omega)⟩
   ·have en : ((n : Int) == 1) = false := by simp; omega
    rw [en]
    simp only [cond_false]
    rw [wrap_i64 (a := (n : Int) - 1) ⟨by omega, by omega⟩]
    obtain ⟨v3, a3, s3, e3, p3, q3, r3⟩ := pick_d ((n : Int) - 1) (by omega) code a2 s2 (k + 2 + 2) hb q2 r2 (by omega)
    simp only at e3
    rw [e3]; simp only [Option.bind_some]
    have hv2 := pick_lt p2 (by omega)
    have hv3 := pick_lt p3 (by omega)
    rw [chk_t (by omega), wrap_i64 (a := v2 + 1) ⟨by omega, by omega⟩, wrap_i64 (a := v2 + 1 + v3) ⟨by omega, by omega⟩]
    have w0 : 0 ≤ Int.tmod (v2 + 1 + v3) (n : Int) := Int.tmod_nonneg _ (by omega)
    have w1 : Int.tmod (v2 + 1 + v3) (n : Int) < (n : Int) := Int.tmod_lt_of_pos _ (by omega)
    have wne : Int.tmod (v2 + 1 + v3) (n : Int) ≠ v2 := by
     rw [Int.tmod_eq_emod_of_nonneg (by omega)]
     by_cases hlt : v2 + 1 + v3 < (n : Int)
     ·rw [Int.emod_eq_of_lt (by omega) hlt]; omega
     ·have : (v2 + 1 + v3) % (n : Int) = v2 + 1 + v3 - (n : Int) := by
       rw [← Int.sub_emod_right, Int.emod_eq_of_lt (by omega) (by omega)]
      rw [this]; omega
    simp only [Option.bind_some, orR]
    refine ⟨_, _, _, rfl, ?_, q3, by first | omega | (simp only; omega)⟩
    generalize Int.tmod (v2 + 1 + v3) (n : Int) = w at w0 w1 wne
    unfold gOk
    simp only
    rw [show (decide (1 ≤ x) && decide (x ≤ 8)) = false by simp; omega, decide_eq_true h9.1, decide_eq_true h9.2, decide_eq_true hv2.1, decide_eq_true (show v2 ≤ (n : Int) - 1 by omega), decide_eq_true w0, decide_eq_true (show w ≤ (n : Int) - 1 by omega)]
    simp
    omega
  ·have e9 : (decide (9 ≤ x) && decide (x ≤ 11)) = false := by
    simp only [Bool.and_eq_false_iff, decide_eq_false_iff_not]; omega
   rw [e9]
   simp only [cond_false, Option.bind_some, orR]
   have hv2 := pick_lt p2 (by omega)
   refine ⟨_, _, _, rfl, ?_, q2, by first | omega | (simp only; omega)⟩
   unfold gOk
   simp only
   rw [decide_eq_true hxr.1, decide_eq_true (show x ≤ 8 by omega), decide_eq_true hv2.1, decide_eq_true (show v2 ≤ (n : Int) - 1 by omega)]
   rfl
theorem built_d (n : Nat) (hn : 1 ≤ n ∧ n ≤ 6) (most : Nat) (hm : most ≤ 100) (kinds : List Int) (hk : 1 ≤ kinds.length ∧ kinds.length ≤ 1000) (hr : ∀ x ∈ kinds, 1 ≤ x ∧ x ≤ 12) : Dr (fun c => F_spec_l1Cur_built c (n : Int) (most : Int) kinds) (fun c => c.Qubits = (n : Int) ∧ c.Gates.length ≤ most ∧ c.Gates.all (gOk n) = true) 1000 := fun code a s k hb h0 h1 h2 => by
 unfold F_spec_l1Cur_built
 simp only
 rw [wrap_i64 (a := (most : Int) + 1) ⟨by omega, by omega⟩]
 obtain ⟨v1, a1, s1, e1, p1, q1, r1⟩ := pick_d ((most : Int) + 1) (by omega) code a s k hb h0 h1 (by omega)
 simp only at e1
 rw [e1]; simp only [Option.bind_some]
 have hv1 := pick_lt p1 (by omega)
 have hs := whX_inv (f := F_spec_l1Cur_built_l1 (Tl1Cur.mk code a s) (n : Int) kinds) (fun t => 0 ≤ t.2.2.2 ∧ 0 ≤ t.1 ∧ t.1 + 8 * t.2.2.2 ≤ ((k + 2 + 8 * most : Nat) : Int) ∧ (t.2.2.1.length : Int) + t.2.2.2 ≤ (most : Int) ∧ t.2.2.1.all (gOk n) = true) (fun t => 0 ≤ t.1 ∧ t.1 ≤ ((k + 2 + 8 * most : Nat) : Int) ∧ t.2.2.1.length ≤ most ∧ t.2.2.1.all (gOk n) = true) (fun _ : TCircuit × Tl1Cur => False) (fun t => t.2.2.2.toNat) (fun t ht => by
  obtain ⟨b1, z1, G, k_⟩ := t
  obtain ⟨t1, t2, t3, t4, t5⟩ := ht
  simp only at t1 t2 t3 t4 t5
  unfold F_spec_l1Cur_built_l1
  simp only
  by_cases hk0 : 0 < k_
  ·rw [decide_eq_true hk0]
   simp only [cond_true]
   obtain ⟨v2, a2, s2, e2, p2, q2, r2⟩ := gate_d n hn kinds hk hr code b1 z1 b1.toNat hb t2 (by omega) (by omega)
   simp only at e2
   rw [e2]; simp only [Option.bind_some]
   rw [chk_t (by omega), wrap_i64 (a := k_ - 1) ⟨by omega, by omega⟩]
   exact .inl ⟨_, rfl, ⟨by simp only; omega, q2, by simp only; omega, by simp only [List.length_append, List.length_singleton]; omega, by simp only [List.all_append, t5, List.all_cons, List.all_nil, p2, Bool.and_self]⟩, by simp only; omega⟩
  ·rw [decide_eq_false hk0]
   exact .inr (.inl ⟨_, rfl, t2, by simp only; omega, by simp only; omega, t5⟩)) fuel (a1, s1, [], v1) ⟨by simp only; omega, q1, by simp only; omega, by simp only [List.length_nil]; omega, rfl⟩ (fuelB (by simp only; omega))
 rcases hs with ⟨⟨b1, z1, G, k_⟩, w1, w2, w3, w4, w5⟩ | ⟨r, _, hr⟩
 ·rw [w1]
  simp only at w2 w3 w4 w5
  exact ⟨_, _, _, rfl, ⟨rfl, w4, w5⟩, w2, by first | omega | (simp only; omega)⟩
 ·exact hr.elim
def rNg (x : TRing) : TRing := TRing.mk (-x.A) (-x.B) (-x.C) (-x.D)
def dNeg (x : TDyadic) : TDyadic := TDyadic.mk (rNg x.Num) x.Exp
theorem neg_ok (x : TRing) : rOk (rNg x) = rOk x := by
 rw [Bool.eq_iff_iff, rOk_iff, rOk_iff]
 unfold rNg
 simp only
 omega
theorem neg_root (x : TRing) : rRoot (rNg x) = rNg (rRoot x) := by
 unfold rRoot rNg
 simp only [TRing.mk.injEq]
 omega
theorem neg_zero : rNg rZero = rZero := by decide
theorem tmod_neg2 (a : Int) : (Int.tmod (-a) 2 == 0) = (Int.tmod a 2 == 0) := by
 rw [Int.neg_tmod, Bool.eq_iff_iff]
 simp
theorem neg_even {x : TRing} (h : rOk x = true) : rEven (rNg x) = rEven x := by
 rw [rOk_iff] at h
 unfold rEven rNg
 simp only
 rw [wr (a := -x.A + -x.C) (by omega), wr (a := -x.B + -x.D) (by omega), wr (a := x.A + x.C) (by omega), wr (a := x.B + x.D) (by omega),
  show -x.A + -x.C = -(x.A + x.C) by omega, show -x.B + -x.D = -(x.B + x.D) by omega, tmod_neg2, tmod_neg2]
theorem neg_dok {y : TDyadic} (h : dOk y = true) : dOk (dNeg y) = true := by
 have hr := (d_parts h).1
 unfold dOk at h ⊢
 unfold dNeg
 simp only [neg_ok, neg_even hr]
 exact h
theorem raise_neg {E : Int} (hE : E ≤ 60) : ∀ (k : Nat) (x : TRing) (ok : Bool) (e : Int), rOk x = true → 0 ≤ e → e ≤ 60 → ∀ {a : TRing} {ok' : Bool} {e' : Int}, whX (F_impl_raised_l1 E) k (iTup x ok e) = some (.inl (iTup a ok' e')) →
  whX (F_impl_raised_l1 E) k (iTup (rNg x) ok e) = some (.inl (iTup (rNg a) ok' e'))
 | 0, _, _, _, _, _, _, _, _, _, h => by cases h
 | k + 1, x, ok, e, hx, h0, h1, a, ok', e', h => by
  have s1 := impl_raise_step (E := E) hx h0 h1 ok
  have s2 := impl_raise_step (E := E) (show rOk (rNg x) = true by rw [neg_ok]; exact hx) h0 h1 ok
  rw [neg_root, neg_ok] at s2
  cases hb : decide (e < E) && ok with
  | true =>
   rw [hb, cond_true] at s1 s2
   have hlt : e < E := by simp at hb; exact hb.1
   cases hr : rOk (rRoot x) with
   | true =>
    simp only [hr, if_true] at s1 s2
    simp only [whX, s1, s2, Option.bind_some] at h ⊢
    exact raise_neg hE k _ _ _ hr (by omega) (by omega) h
   | false =>
    simp only [hr, Bool.false_eq_true, if_false] at s1 s2
    simp only [whX, s1, s2, Option.bind_some] at h ⊢
    have := raise_neg hE k _ _ _ rZero_ok (by omega) (by omega) h
    rwa [neg_zero] at this
  | false =>
   rw [hb, cond_false] at s1 s2
   simp only [whX, s1, s2, Option.bind_some] at h ⊢
   simp only [iTup, Option.some.injEq, Sum.inl.injEq, Prod.mk.injEq] at h ⊢
   obtain ⟨q1, q2, q3, q4, q5, q6⟩ := h
   unfold rNg
   simp only
   exact ⟨by omega, by omega, by omega, by omega, q5, q6⟩
theorem sub_eq {x y : TDyadic} (hx : dOk x = true) (hy : dOk y = true) : F_impl_SubDyadic x y = F_impl_AddDyadic x (dNeg y) := by
 obtain ⟨x1, x2, x3⟩ := d_parts hx
 obtain ⟨y1, y2, y3⟩ := d_parts hy
 have hn := neg_dok hy
 generalize hE : (if x.Exp < y.Exp then y.Exp else x.Exp) = E
 have hE60 : 0 ≤ E ∧ E ≤ 60 := by subst hE; split <;> omega
 have hxE : x.Exp ≤ E := by subst hE; split <;> omega
 have hyE : y.Exp ≤ E := by subst hE; split <;> omega
 have run : ∀ (z : TRing) (e : Int), rOk z = true → 0 ≤ e → e ≤ E → ∃ a ok e', rOk a = true ∧ whX (F_impl_raised_l1 E) fuel (iTup z true e) = some (.inl (iTup a ok e')) := fun z e hz h0 h1 => by
  rcases raise_both (f := F_spec_l2C_add_l2 E true 0 0 0) (E := E) hE60.2 (add_l2 _ _ _ _ _) fuel z e hz h0 h1 (fuel_big (by omega)) with ⟨a, a1, _, a3⟩ | ⟨_, a, e', a2, a3⟩
  ·exact ⟨a, _, _, a1, a3⟩
  ·exact ⟨a, _, _, a2, a3⟩
 obtain ⟨a, oa, ea, a1, a2⟩ := run x.Num x.Exp x1 x2 hxE
 obtain ⟨c, oc, ec, c1, c2⟩ := run y.Num y.Exp y1 y2 hyE
 have c3 := raise_neg hE60.2 fuel _ _ _ y1 y2 y3 c2
 have ra := raised_of a2
 have rc := raised_of c2
 have rn := raised_of (x := dNeg y) c3
 have hsub : F_impl_SubRing a c = F_impl_AddRing a (rNg c) := by
  have k1 := a1; have k2 := c1
  rw [rOk_iff] at k1 k2
  unfold F_impl_SubRing F_impl_AddRing
  have e1 : ∀ out, F_impl_ringIf out [a, c] = F_impl_ringIf out [a, rNg c] := fun out => by
   have e3 : [a, rNg c].all rOk = [a, c].all rOk := by simp [neg_ok]
   rw [ring_if _ _ (by simp), ring_if _ _ (by simp), e3]
  rw [e1]
  rfl
 unfold F_impl_SubDyadic F_impl_AddDyadic F_impl_combined
 rw [hE, show (dNeg y).Exp = y.Exp from rfl, hE]
 simp only [impl_dyadic, hx, hy, hn, Option.bind_some, gb, Bool.not_true, Bool.not_false, cond_true, Bool.or_self, cond_false, ra, rc, rn, hsub]

theorem imS {x y : TDyadic} (hx : dOk x = true) (hy : dOk y = true) : F_impl_SubDyadic x y = some (dR (DA x (dNeg y))) := by rw [sub_eq hx hy]; exact imA hx (neg_dok hy)

def mbCell (a b : List TDyadic) (i j : Nat) : Option TDyadic := forN (dotS (fun k => a.getD (3 * i + k) dZero) (fun k => b.getD (3 * k + j) dZero)) 3 0 dZero
def mbRow (a b : List TDyadic) (i : Nat) (l : List TDyadic) : Option (List TDyadic) := forN (fun j l => (mbCell a b i j).bind fun z => some (l ++ [z])) 3 0 l
def mbO (a b : List TDyadic) : Option (List TDyadic) := forN (mbRow a b) 3 0 []
def lR (o : Option (List TDyadic)) : List TDyadic × Bool := match o with | some l => (l, true) | none => ([], false)
theorem im_bloch {a b : List TDyadic} (ha : okD a) (hb : okD b) (la : a.length = 9) (lb : b.length = 9) :
  F_impl_mulBloch a b = some (lR (mbO a b)) ∧ ∀ l, mbO a b = some l → okD l ∧ l.length = 9 := by
 have l3 : ∀ (i j : Nat), i < 3 → j < 3 → forX (F_impl_mulBloch_l3 a i b j) 3 0 (iT dZero) = some (exO iT (.rt (.rt ([], false))) (mbCell a b i j)) ∧ ∀ z, mbCell a b i j = some z → dOk z = true := fun i j hi hj => by
  refine im_it (g := F_impl_mulBloch_l3 a i b j) (enc := iT) (G := fun _ z => dOk z = true) (n := 3) (fun k s hk hs => ?_) 3 0 dZero (by omega) dZero_ok
  have := dot_impl (X := fun k => a.getD (3 * i + k) dZero) (Y := fun k => b.getD (3 * k + j) dZero) (fun _ => getD_ok ha _) (fun _ => getD_ok hb _) (Ex.rt (σ := List TDyadic) (Ex.rt (σ := List TDyadic) (([] : List TDyadic), false))) k s hs
  refine ⟨?_, this.2⟩
  rw [← this.1]
  unfold F_impl_mulBloch_l3 iT
  simp only
  rw [wr (a := 3 * (i : Int)) (by omega), wr (a := 3 * (k : Int)) (by omega), wr (a := 3 * (i : Int) + k) (by omega), wr (a := 3 * (k : Int) + j) (by omega),
    gI (n := 3 * i + k) (by omega) (by omega), gI (n := 3 * k + j) (by omega) (by omega)]
  rfl
 have l2 : ∀ (i : Nat) (l : List TDyadic), i < 3 → okD l → l.length = 3 * i → forX (F_impl_mulBloch_l2 a i b) 3 0 l = some (exO id (.rt ([], false)) (mbRow a b i l)) ∧ ∀ z, mbRow a b i l = some z → okD z ∧ z.length = 3 * i + 3 := fun i l hi hl hll => by
  refine im_it (g := F_impl_mulBloch_l2 a i b) (enc := id) (G := fun j z => okD z ∧ z.length = 3 * i + j) (n := 3) (fun j s hj hs => ?_) 3 0 l (by omega) ⟨hl, by omega⟩
  obtain ⟨h1, h2⟩ := l3 i j hi hj
  unfold F_impl_mulBloch_l2
  simp only [id]
  rw [show forX (F_impl_mulBloch_l3 a i b j) 3 0 (0, 0, 0, 0, 0) = _ from h1]
  cases hc : mbCell a b i j with
  | none => exact ⟨rfl, fun z hz => by cases hz⟩
  | some z =>
   simp only [exO, iT, Option.bind_some, orR]
   rw [chk_t (by omega)]
   exact ⟨rfl, fun z' hz => by cases hz; exact ⟨okD_snoc hs.1 (h2 z hc), by simp; omega⟩⟩
 obtain ⟨h1, h2⟩ := im_it (g := F_impl_mulBloch_l1 a b) (enc := id) (G := fun i z => okD z ∧ z.length = 3 * i) (st := mbRow a b) (R := (([] : List TDyadic), false)) (n := 3) (fun i s hi hs => by
  obtain ⟨h1, h2⟩ := l2 i s hi hs.1 hs.2
  unfold F_impl_mulBloch_l1
  simp only [id]
  rw [h1]
  cases hc : mbRow a b i s with
  | none => exact ⟨rfl, fun z hz => by cases hz⟩
  | some z => exact ⟨rfl, fun z' hz => by cases hz; obtain ⟨q1, q2⟩ := h2 z hc; exact ⟨q1, by omega⟩⟩) 3 0 [] (by omega) ⟨fun _ h => (by cases h), rfl⟩
 refine ⟨?_, fun l hl => h2 l hl⟩
 unfold F_impl_mulBloch
 rw [show forX (F_impl_mulBloch_l1 a b) 3 0 [] = _ from h1]
 unfold mbO
 cases forN (mbRow a b) 3 0 [] <;> rfl

def minO (p q r s : TDyadic) : Option TDyadic := (DM p s).bind fun x => (DM q r).bind fun y => DA x (dNeg y)
theorem im_minor {p q r s : TDyadic} (hp : dOk p = true) (hq : dOk q = true) (hr : dOk r = true) (hs : dOk s = true) :
  ∃ o, F_impl_minor p q r s = some (o, (minO p q r s).isSome) ∧ dOk o = true ∧ ∀ z, minO p q r s = some z → o = z := by
 unfold F_impl_minor minO
 rw [imM hp hs, imM hq hr]
 have o1 : dOk (dR (DM p s)).1 = true := dR_ok (fun z hz => dm_ok hp hs hz)
 have o2 : dOk (dR (DM q r)).1 = true := dR_ok (fun z hz => dm_ok hq hr hz)
 simp only [Option.bind_some]
 rw [imS o1 o2]
 have o3 : dOk (dR (DA (dR (DM p s)).1 (dNeg (dR (DM q r)).1))).1 = true := dR_ok (fun z hz => da_ok o1 (neg_dok o2) hz)
 refine ⟨_, ?_, o3, ?_⟩
 ·simp only [Option.bind_some]
  cases DM p s with
  | none => rfl
  | some x =>
   cases DM q r with
   | none => rfl
   | some y => simp only [dR, Option.bind_some]; cases DA x (dNeg y) <;> rfl
 ·intro z hz
  cases h1 : DM p s with
  | none => rw [h1] at hz; cases hz
  | some x =>
   cases h2 : DM q r with
   | none => rw [h1, h2] at hz; cases hz
   | some y =>
    rw [h1, h2] at hz
    simp only [Option.bind_some] at hz
    simp only [dR, hz]
/-- The determinant of nine numbers. -/
def detO (l : List TDyadic) : Option TDyadic :=
 (minO (l.getD 4 dZero) (l.getD 5 dZero) (l.getD 7 dZero) (l.getD 8 dZero)).bind fun m0 => (DM (l.getD 0 dZero) m0).bind fun x0 =>
 (minO (l.getD 3 dZero) (l.getD 5 dZero) (l.getD 6 dZero) (l.getD 8 dZero)).bind fun m1 => (DM (l.getD 1 dZero) m1).bind fun x1 => (DA x0 (dNeg x1)).bind fun s1 =>
 (minO (l.getD 3 dZero) (l.getD 4 dZero) (l.getD 6 dZero) (l.getD 7 dZero)).bind fun m2 => (DM (l.getD 2 dZero) m2).bind fun x2 => DA s1 x2
theorem min_ok {p q r s z : TDyadic} (hp : dOk p = true) (hq : dOk q = true) (hr : dOk r = true) (hs : dOk s = true) (h : minO p q r s = some z) : dOk z = true := by
 obtain ⟨o, _, h2, h3⟩ := im_minor hp hq hr hs
 rw [← h3 z h]; exact h2
/-- One round of the program's determinant. -/
def detS (l : List TDyadic) (k : Nat) (s : TDyadic) : Option TDyadic :=
 (minO (l.getD (if k = 0 then 4 else 3) dZero) (l.getD (if k = 2 then 4 else 5) dZero) (l.getD (if k = 0 then 7 else 6) dZero) (l.getD (if k = 2 then 7 else 8) dZero)).bind fun m => (DM (l.getD k dZero) m).bind fun x => if k = 1 then DA s (dNeg x) else DA s x
theorem det_rest {l : List TDyadic} (ll : l.length = 9) {k : Nat} (hk : k < 3) :
  forN (F_impl_determinant_l2 k l) 3 0 [] = some [l.getD (if k = 0 then 4 else 3) dZero, l.getD (if k = 0 then 7 else 6) dZero, l.getD (if k = 2 then 4 else 5) dZero, l.getD (if k = 2 then 7 else 8) dZero] := by
 obtain ⟨x0, x1, x2, x3, x4, x5, x6, x7, x8, rfl⟩ : ∃ x0 x1 x2 x3 x4 x5 x6 x7 x8, l = [x0, x1, x2, x3, x4, x5, x6, x7, x8] := by
  match l, ll with
  | [x0, x1, x2, x3, x4, x5, x6, x7, x8], _ => exact ⟨_, _, _, _, _, _, _, _, _, rfl⟩
 have : k = 0 ∨ k = 1 ∨ k = 2 := by omega
 rcases this with rfl | rfl | rfl <;> rfl
theorem im_det {l : List TDyadic} (hl : okD l) (ll : l.length = 9) : F_impl_determinant l = some (dR (detO l)) ∧ ∀ z, detO l = some z → dOk z = true := by
 obtain ⟨h1, h2⟩ := im_it (g := F_impl_determinant_l1 l) (enc := iT) (G := fun _ z => dOk z = true) (st := detS l) (R := (dZero, false)) (n := 3) (fun k s hk hs => by
  have ok := fun n => getD_ok hl n
  obtain ⟨o, e1, e2, e3⟩ := im_minor (ok (if k = 0 then 4 else 3)) (ok (if k = 2 then 4 else 5)) (ok (if k = 0 then 7 else 6)) (ok (if k = 2 then 7 else 8))
  have hg : getI l (k : Int) = some (l.getD k dZero) := gI rfl (by omega)
  unfold F_impl_determinant_l1 iT
  simp only
  rw [det_rest ll hk]
  simp only [Option.bind_some]
  have q0 : ∀ (a b c d : TDyadic), getI [a, b, c, d] 0 = some a := fun _ _ _ _ => rfl
  have q1 : ∀ (a b c d : TDyadic), getI [a, b, c, d] 1 = some b := fun _ _ _ _ => rfl
  have q2 : ∀ (a b c d : TDyadic), getI [a, b, c, d] 2 = some c := fun _ _ _ _ => rfl
  have q3 : ∀ (a b c d : TDyadic), getI [a, b, c, d] 3 = some d := fun _ _ _ _ => rfl
  rw [q0, q1, q2, q3, hg]
  simp only [Option.bind_some, e1]
  rw [imM (ok k) e2]
  have o1 : dOk (dR (DM (l.getD k dZero) o)).1 = true := dR_ok (fun z hz => dm_ok (ok k) e2 hz)
  simp only [Option.bind_some]
  rw [show (TDyadic.mk (TRing.mk s.Num.A s.Num.B s.Num.C s.Num.D) s.Exp) = s from rfl, imS hs o1, imA hs o1]
  unfold detS
  simp only [Option.bind_some]
  cases hm : minO (l.getD (if k = 0 then 4 else 3) dZero) (l.getD (if k = 2 then 4 else 5) dZero) (l.getD (if k = 0 then 7 else 6) dZero) (l.getD (if k = 2 then 7 else 8) dZero) with
  | none =>
   refine ⟨?_, fun z hz => by cases hz⟩
   simp only [Option.isSome_none, Bool.not_false, Bool.true_or, cond_true, Option.bind_none]
   cases ((k : Int) == 1) <;> rfl
  | some m =>
   have := e3 m hm
   subst this
   simp only [Option.isSome_some, Bool.not_true, Bool.false_or, Option.bind_some]
   cases hx : DM (l.getD k dZero) o with
   | none =>
    refine ⟨?_, fun z hz => by cases hz⟩
    simp only [dR, Bool.not_false, Bool.true_or, cond_true, Option.bind_none]
    cases ((k : Int) == 1) <;> rfl
   | some x =>
    rw [hx] at o1
    simp only [dR, Bool.not_true, Bool.false_or, Option.bind_some] at o1 ⊢
    by_cases h1 : k = 1
    ·have e : ((k : Int) == 1) = true := by simp [h1]
     rw [e, if_pos h1]
     simp only [cond_true]
     cases ha : DA s (dNeg x) with
     | none => exact ⟨rfl, fun z hz => by cases hz⟩
     | some z => exact ⟨rfl, fun z' hz => by cases hz; exact da_ok hs (neg_dok o1) ha⟩
    ·have e : ((k : Int) == 1) = false := by simp; omega
     rw [e, if_neg h1]
     simp only [cond_false]
     cases ha : DA s x with
     | none => exact ⟨rfl, fun z hz => by cases hz⟩
     | some z => exact ⟨rfl, fun z' hz => by cases hz; exact da_ok hs o1 ha⟩) 3 0 dZero (by omega) dZero_ok
 have e : forN (detS l) 3 0 dZero = detO l := by
  have ok := fun n => getD_ok hl n
  simp only [forN, detS, detO]
  simp only [show (0 : Nat) + 1 = 1 from rfl, show (1 : Nat) + 1 = 2 from rfl, show (0 : Nat) = 0 from rfl, if_true, show ((0 : Nat) = 2) = False from by simp, show ((1 : Nat) = 0) = False from by simp, show ((1 : Nat) = 2) = False from by simp, show ((2 : Nat) = 0) = False from by simp, show ((2 : Nat) = 1) = False from by simp, show ((0 : Nat) = 1) = False from by simp, if_false]
  cases hm : minO (l.getD 4 dZero) (l.getD 5 dZero) (l.getD 7 dZero) (l.getD 8 dZero) with
  | none => rfl
  | some m0 =>
   simp only [Option.bind_some]
   cases hx : DM (l.getD 0 dZero) m0 with
   | none => rfl
   | some x0 =>
    simp only [Option.bind_some, zero_add (dm_ok (ok 0) (min_ok (ok 4) (ok 5) (ok 7) (ok 8) hm) hx)]
    cases minO (l.getD 3 dZero) (l.getD 5 dZero) (l.getD 6 dZero) (l.getD 8 dZero) with
    | none => rfl
    | some m1 =>
     simp only [Option.bind_some]
     cases DM (l.getD 1 dZero) m1 with
     | none => rfl
     | some x1 =>
      simp only [Option.bind_some]
      cases DA x0 (dNeg x1) with
      | none => rfl
      | some s1 =>
       simp only [Option.bind_some]
       cases minO (l.getD 3 dZero) (l.getD 4 dZero) (l.getD 6 dZero) (l.getD 7 dZero) with
       | none => rfl
       | some m2 =>
        simp only [Option.bind_some]
        cases DM (l.getD 2 dZero) m2 with
        | none => rfl
        | some x2 =>
         simp only [Option.bind_some]
         cases DA s1 x2 <;> rfl
 rw [e] at h1 h2
 refine ⟨?_, fun z hz => h2 z hz⟩
 unfold F_impl_determinant
 rw [show forX (F_impl_determinant_l1 l) 3 0 (0, 0, 0, 0, 0) = _ from h1]
 cases detO l <;> rfl

def realB (x : TDyadic) : Bool := dOk x && (x.Num.C == 0) && (x.Num.D == IntKind.i64.wrap (-x.Num.B))
def turn9 (l : List TDyadic) : List TDyadic := [l.getD 0 dZero, l.getD 3 dZero, l.getD 6 dZero, l.getD 1 dZero, l.getD 4 dZero, l.getD 7 dZero, l.getD 2 dZero, l.getD 5 dZero, l.getD 8 dZero]
def unit9 : List TDyadic := [dOne, dZero, dZero, dZero, dOne, dZero, dZero, dZero, dOne]
/-- Whether nine numbers are taken. -/
def bvO (l : List TDyadic) : Bool := decide (l.length = 9) && l.all realB && (match mbO l (turn9 l), detO l with | some p, some d => decide (p = unit9) && decide (d = dOne) | _, _ => false)
theorem nine {l : List TDyadic} (ll : l.length = 9) : ∃ x0 x1 x2 x3 x4 x5 x6 x7 x8, l = [x0, x1, x2, x3, x4, x5, x6, x7, x8] := by
 match l, ll with
 | [x0, x1, x2, x3, x4, x5, x6, x7, x8], _ => exact ⟨_, _, _, _, _, _, _, _, _, rfl⟩
theorem impl_turn {l : List TDyadic} (ll : l.length = 9) : F_impl_transposed l = some (turn9 l) := by
 obtain ⟨x0, x1, x2, x3, x4, x5, x6, x7, x8, rfl⟩ := nine ll
 rfl
theorem turn_ok {l : List TDyadic} (h : okD l) : okD (turn9 l) := fun z hz => by
 simp only [turn9, List.mem_cons, List.not_mem_nil, or_false] at hz
 rcases hz with rfl | rfl | rfl | rfl | rfl | rfl | rfl | rfl | rfl <;> exact getD_ok h _
theorem real_ok {l : List TDyadic} (h : l.all realB = true) : okD l := fun z hz => by
 have := List.all_eq_true.1 h z hz
 unfold realB at this
 simp only [Bool.and_eq_true] at this
 exact this.1.1
theorem impl_valid (b : TBloch) : F_impl_IsValidBloch b = some (bvO b.Cells) := by
 unfold F_impl_IsValidBloch bvO
 by_cases ll : b.Cells.length = 9
 ·have e9 : ((b.Cells.length : Int) != 9) = false := by simp [ll]
  rw [e9, decide_eq_true ll]
  simp only [Bool.not_false, gb, cond_true, Bool.false_or, Bool.true_and]
  rw [contains_eq (p := fun x => !realB x) (by omega) (fun x => by
   unfold F_impl_IsValidBloch_1 F_impl_isReal; simp only [impl_dyadic, Option.bind_some]; rfl), any_not_all]
  simp only [Option.bind_some]
  cases hreal : b.Cells.all realB with
  | false => rfl
  | true =>
   have hb := real_ok hreal
   simp only [Bool.not_true, cond_false, Bool.true_and]
   rw [impl_turn ll]
   simp only [Option.bind_some]
   obtain ⟨i1, i2⟩ := im_bloch hb (turn_ok hb) ll (show (turn9 b.Cells).length = 9 from rfl)
   obtain ⟨d1, d2⟩ := im_det hb ll
   rw [i1, d1]
   cases hm : mbO b.Cells (turn9 b.Cells) with
   | none => rfl
   | some p =>
    cases hd : detO b.Cells with
    | none => rfl
    | some d =>
     obtain ⟨_, lp⟩ := i2 p hm
     have hw : F_impl_whole 1 = some dOne := rfl
     rw [show lR (some p) = (p, true) from rfl, show dR (some d) = (d, true) from rfl]
     simp only [Bool.not_true, Bool.or_self, Bool.not_false, cond_true, hw, Option.bind_some, Bool.false_or, dy_eq]
     by_cases h1 : d = dOne
     ·rw [decide_eq_true h1]
      simp only [Bool.not_true, cond_false, Bool.and_true]
      rw [chk_t (by omega), forX_same (f := F_impl_IsValidBloch_l1 p) (l := p) (l' := unit9) (q := false) (by rw [lp]; rfl) (fun i x y hx hy => by
       have hi : i < 9 := by have := (List.getElem?_eq_some_iff.1 hx).1; omega
       have hu : ((F_impl_small ((Int.tmod (i : Int) 4) == 0)).bind fun r_8 => F_impl_whole r_8) = some y := by
        have : i = 0 ∨ i = 1 ∨ i = 2 ∨ i = 3 ∨ i = 4 ∨ i = 5 ∨ i = 6 ∨ i = 7 ∨ i = 8 := by omega
        rcases this with rfl | rfl | rfl | rfl | rfl | rfl | rfl | rfl | rfl <;> exact hy
       unfold F_impl_IsValidBloch_l1
       obtain ⟨r8, q1, q2⟩ := Option.bind_eq_some_iff.1 hu
       simp only [getI_nat, hx, q1, q2, Option.bind_some, dy_eq, bs])]
      by_cases h2 : p = unit9
      ·rw [if_pos h2, decide_eq_true h2]; rfl
      ·rw [if_neg h2, decide_eq_false h2]; rfl
     ·rw [decide_eq_false h1]
      simp only [Bool.not_false, cond_true, Bool.and_false]
 ·have e9 : ((b.Cells.length : Int) != 9) = true := by simp; omega
  rw [e9, decide_eq_false ll]
  rfl

theorem uni_both (m : TMatrix) (hl : m.Cells.length ≤ 9223372036854775807) : ∃ (u ok : Bool), F_spec_IsUnitary m = some (u, ok) ∧ F_impl_IsUnitary m = some (u, ok) ∧ (mOk m = false ∨ m.Rows ≠ m.Cols → u = false ∧ ok = false) := by
 unfold F_spec_IsUnitary F_impl_IsUnitary
 rw [spec_mgood m hl, impl_mgood m hl]
 cases hm : mOk m with
 | false => exact ⟨_, _, rfl, rfl, fun _ => ⟨rfl, rfl⟩⟩
 | true =>
  obtain ⟨R, C, l, rfl, d1, d2, b1, b2, ll, ol⟩ := m_parts hm
  by_cases h : R = C
  ·subst h
   simp only [Option.bind_some, Bool.not_true, bne_self_eq_false, Bool.or_self, cond_false]
   obtain ⟨l', a1, a2, a3⟩ := adj_some (R := R) (C := R) ol
   rw [spec_adj ol ll b1.2 b1.2, impl_adj hm, a1]
   simp only [Option.map_some, Option.bind_some, mR]
   obtain ⟨x, c, e, g⟩ := sp_times (R := R) (K := R) (C := R) ol a2 ll a3 b1.2 b1.2 b1.2 false
   obtain ⟨i1, i2⟩ := im_mul hm (m_make d1 d1 a3 a2)
   rw [show F_spec_l2C_times (Tl2C.mk false) (TMatrix.mk R R l) (TMatrix.mk R R l') = _ from e, i1]
   rw [unit_spec R (dim_mem d1), unit_impl R (dim_mem d1)]
   have hb : R * R ≤ 32 * 32 := Nat.mul_le_mul b1.2 b1.2
   rcases g.good with ⟨p, rfl⟩ | ⟨p, rfl⟩
   ·rw [p]
    simp only [mR, Option.bind_some, gb, cond_true, Bool.true_and]
    rw [show (cB false).bad = false from rfl, spec_meq g.1.2 (unit_len R) b1.2 b1.2, impl_meq (by rw [g.1.2]; omega)]
    exact ⟨_, _, rfl, rfl, fun h => by rcases h with h | h; exact absurd h (by simp); exact absurd rfl h⟩
   ·rw [p]
    exact ⟨_, _, rfl, rfl, fun _ => ⟨rfl, rfl⟩⟩
  ·have e : ((R : Int) != (C : Int)) = true := by simp; omega
   simp only [Option.bind_some, Bool.not_true, e, Bool.or_true, cond_true]
   exact ⟨_, _, rfl, rfl, fun _ => ⟨rfl, rfl⟩⟩
theorem one_both (m : TMatrix) (hl : m.Cells.length ≤ 9223372036854775807) : ∃ b, F_spec_l9Good m = some b ∧ F_impl_IsOneQubit m = some b ∧ (b = true → mOk m = true ∧ m.Rows = 2 ∧ m.Cols = 2) := by
 obtain ⟨u, ok, h1, h2, h3⟩ := uni_both m hl
 unfold F_spec_l9Good F_impl_IsOneQubit
 rw [h1, h2, impl_mgood m hl]
 simp only [Option.bind_some]
 cases hm : mOk m with
 | false =>
  obtain ⟨rfl, rfl⟩ := h3 (.inl hm)
  exact ⟨_, rfl, rfl, fun h => by cases h⟩
 | true =>
  by_cases hr : m.Rows = 2
  ·by_cases hc : m.Cols = 2
   ·have e1 : (m.Rows == 2) = true := by simp [hr]
    have e2 : (m.Rows != 2) = false := by simp [hr]
    have e3 : (m.Cols != 2) = false := by simp [hc]
    rw [e1, e2, e3]
    simp only [Bool.not_true, Bool.or_self, cond_false, Bool.and_true]
    exact ⟨_, rfl, rfl, fun _ => ⟨by first | rfl | trivial, hr, hc⟩⟩
   ·obtain ⟨rfl, rfl⟩ := h3 (.inr (by omega))
    have e3 : (m.Cols != 2) = true := by simp [hc]
    rw [e3]
    simp only [Bool.or_true, cond_true, Bool.and_self, Bool.false_and]
    exact ⟨_, rfl, rfl, fun h => by cases h⟩
  ·have e1 : (m.Rows == 2) = false := by simp [hr]
   have e2 : (m.Rows != 2) = true := by simp [hr]
   rw [e1, e2]
   simp only [Bool.or_true, Bool.true_or, cond_true, Bool.and_false]
   exact ⟨_, rfl, rfl, fun h => by cases h⟩
def dHalf : TDyadic := TDyadic.mk (TRing.mk 1 0 0 0) 2
theorem dHalf_ok : dOk dHalf = true := by decide
def pauL (i : Nat) : List TDyadic := ((F_spec_l9Pauli (i : Int)).getD (TMatrix.mk 0 0 [])).Cells
theorem pau_small : ∀ i : Fin 3, F_spec_l9Pauli (i.val : Int) = some (TMatrix.mk 2 2 (pauL i.val)) ∧ getI [2, 3, 4] (i.val : Int) = some ((i.val : Int) + 2) ∧ F_impl_GateMatrix 1 (TGate.mk ((i.val : Int) + 2) 0 0) = some (TMatrix.mk 2 2 (pauL i.val), true) ∧ (pauL i.val).length = 2 * 2 ∧ (pauL i.val).all dOk = true := by decide +kernel
theorem pau {i : Nat} (h : i < 3) : F_spec_l9Pauli (i : Int) = some (TMatrix.mk 2 2 (pauL i)) ∧ getI [2, 3, 4] (i : Int) = some ((i : Int) + 2) ∧ F_impl_GateMatrix 1 (TGate.mk ((i : Int) + 2) 0 0) = some (TMatrix.mk 2 2 (pauL i), true) ∧ (pauL i).length = 2 * 2 ∧ okD (pauL i) := by
 obtain ⟨h1, h2, h3, h4, h5⟩ := pau_small ⟨i, h⟩
 exact ⟨h1, h2, h3, h4, fun z hz => List.all_eq_true.1 h5 z hz⟩
def blO (l l' : List TDyadic) (i j : Nat) : Option TDyadic :=
 (mmO (pauL i) l 2 2 2).bind fun l1 => (mmO l1 (pauL j) 2 2 2).bind fun l2 => (mmO l2 l' 2 2 2).bind fun l3 => (DA (l3.getD 0 dZero) (l3.getD 3 dZero)).bind fun t => DM t dHalf
theorem bl_spec {l l' : List TDyadic} (ol : okD l) (ll : l.length = 2 * 2) (ol' : okD l') (ll' : l'.length = 2 * 2) (ha : F_spec_l3Adj (TMatrix.mk 2 2 l) = some (TMatrix.mk 2 2 l')) {i j : Nat} (hi : i < 3) (hj : j < 3) (Cells : List TDyadic) (bad b1 : Bool) (s : List TDyadic) (hs : s.length ≤ 9) :
  ∃ z b', F_spec_l9Bloch_l2 i (TMatrix.mk 2 2 l) Cells bad j (b1, s) = some (b', s ++ [z]) ∧ SR (fun z => dOk z = true) (blO l l' i j) b1 z b' := by
 obtain ⟨p1, _, _, p4, p5⟩ := pau hi
 obtain ⟨q1, _, _, q4, q5⟩ := pau hj
 obtain ⟨l1, c1, e1, g1⟩ := sp_times (R := 2) (K := 2) (C := 2) p5 ol p4 ll (by decide) (by decide) (by decide) b1
 obtain ⟨l2, c2, e2, g2⟩ := sp_times (R := 2) (K := 2) (C := 2) g1.1.1 q5 g1.1.2 q4 (by decide) (by decide) (by decide) c1
 obtain ⟨l3, c3, e3, g3⟩ := sp_times (R := 2) (K := 2) (C := 2) g2.1.1 ol' g2.1.2 ll' (by decide) (by decide) (by decide) c2
 obtain ⟨t, c4, e4, g4⟩ := srA (getD_ok g3.1.1 0) (getD_ok g3.1.1 3) c3
 obtain ⟨z, c5, e5, g5⟩ := srM g4.1 dHalf_ok c4
 refine ⟨z, c5, ?_, g1.bind (g2.bind (g3.bind (g4.bind g5)))⟩
 have hl3 := g3.1.2
 unfold F_spec_l9Bloch_l2
 simp only
 rw [p1]
 simp only [Option.bind_some]
 rw [show F_spec_l2C_times (Tl2C.mk b1) (TMatrix.mk 2 2 (pauL i)) (TMatrix.mk 2 2 l) = some (TMatrix.mk 2 2 l1, cB c1) from e1]
 simp only [Option.bind_some]
 rw [q1]
 simp only [Option.bind_some]
 rw [show F_spec_l2C_times (cB c1) (TMatrix.mk 2 2 l1) (TMatrix.mk 2 2 (pauL j)) = some (TMatrix.mk 2 2 l2, cB c2) from e2]
 simp only [Option.bind_some]
 rw [ha]
 simp only [Option.bind_some]
 rw [show F_spec_l2C_times (cB c2) (TMatrix.mk 2 2 l2) (TMatrix.mk 2 2 l') = some (TMatrix.mk 2 2 l3, cB c3) from e3]
 simp only [Option.bind_some]
 rw [gI (l := l3) (x := 0) (n := 0) rfl (by omega), gI (l := l3) (x := 3) (n := 3) rfl (by omega)]
 simp only [Option.bind_some]
 rw [e4]
 simp only [Option.bind_some]
 rw [show F_spec_l2C_mul (cB c4) t (TDyadic.mk (TRing.mk 1 0 0 0) 2) = some (z, cB c5) from e5]
 simp only [Option.bind_some]
 rw [chk_t (by omega)]
 rfl
theorem mul_bad (b : TMatrix) : F_impl_MulMatrix (TMatrix.mk 0 0 []) b = some (TMatrix.mk 0 0 [], false) := by
 unfold F_impl_MulMatrix
 rw [impl_mgood _ (by decide), show mOk (TMatrix.mk 0 0 []) = false by decide]
 rfl
theorem trace_bad : F_impl_TraceOf (TMatrix.mk 0 0 []) = some (dZero, false) := by
 unfold F_impl_TraceOf
 rw [impl_mgood _ (by decide), show mOk (TMatrix.mk 0 0 []) = false by decide]
 rfl
theorem two_dim : dimB ((2 : Nat) : Int) = true := by decide
theorem trace_two {l : List TDyadic} (ol : okD l) (ll : l.length = 2 * 2) : F_impl_TraceOf (TMatrix.mk 2 2 l) = some (dR (DA (l.getD 0 dZero) (l.getD 3 dZero))) := by
 have hm : mOk (TMatrix.mk 2 2 l) = true := m_make (R := 2) (C := 2) two_dim two_dim ll ol
 have h0 := getD_ok ol 0
 have h3 := getD_ok ol 3
 unfold F_impl_TraceOf
 rw [impl_mgood _ (by simp only; omega), hm]
 simp only [Option.bind_some, Bool.not_true, bne_self_eq_false, Bool.or_self, cond_false]
 have s0 : F_impl_TraceOf_l1 (TMatrix.mk 2 2 l) (0, 0, 0, 0, 0, true, 0) = some (.nx ((l.getD 0 dZero).Num.A, (l.getD 0 dZero).Num.B, (l.getD 0 dZero).Num.C, (l.getD 0 dZero).Num.D, (l.getD 0 dZero).Exp, true, 1)) := by
  unfold F_impl_TraceOf_l1
  simp only
  rw [show F_impl_Matrix_at (TMatrix.mk 2 2 l) 0 0 = some (l.getD 0 dZero) from im_at (R := 2) (C := 2) (i := 0) (j := 0) (by decide) (by decide) (by decide) (by decide) ll]
  rw [show (decide ((0 : Int) < 2) && true) = true by decide]
  simp only [cond_true, Option.bind_some]
  rw [show F_impl_AddDyadic (TDyadic.mk (TRing.mk 0 0 0 0) 0) (l.getD 0 dZero) = some (dR (DA dZero (l.getD 0 dZero))) from imA dZero_ok h0, zero_add h0]
  rfl
 have s1 : F_impl_TraceOf_l1 (TMatrix.mk 2 2 l) ((l.getD 0 dZero).Num.A, (l.getD 0 dZero).Num.B, (l.getD 0 dZero).Num.C, (l.getD 0 dZero).Num.D, (l.getD 0 dZero).Exp, true, 1) =
   some (.nx ((dR (DA (l.getD 0 dZero) (l.getD 3 dZero))).1.Num.A, (dR (DA (l.getD 0 dZero) (l.getD 3 dZero))).1.Num.B, (dR (DA (l.getD 0 dZero) (l.getD 3 dZero))).1.Num.C, (dR (DA (l.getD 0 dZero) (l.getD 3 dZero))).1.Num.D, (dR (DA (l.getD 0 dZero) (l.getD 3 dZero))).1.Exp, (dR (DA (l.getD 0 dZero) (l.getD 3 dZero))).2, 2)) := by
  unfold F_impl_TraceOf_l1
  simp only
  rw [show F_impl_Matrix_at (TMatrix.mk 2 2 l) 1 1 = some (l.getD 3 dZero) from im_at (R := 2) (C := 2) (i := 1) (j := 1) (by decide) (by decide) (by decide) (by decide) ll]
  rw [show (decide ((1 : Int) < 2) && true) = true by decide]
  simp only [cond_true, Option.bind_some]
  rw [show F_impl_AddDyadic (TDyadic.mk (TRing.mk (l.getD 0 dZero).Num.A (l.getD 0 dZero).Num.B (l.getD 0 dZero).Num.C (l.getD 0 dZero).Num.D) (l.getD 0 dZero).Exp) (l.getD 3 dZero) = some (dR (DA (l.getD 0 dZero) (l.getD 3 dZero))) from imA h0 h3]
  rfl
 have s2 : ∀ A B C D E ok, F_impl_TraceOf_l1 (TMatrix.mk 2 2 l) (A, B, C, D, E, ok, 2) = some (.br (A, B, C, D, E, ok, 2)) := fun A B C D E ok => by
  unfold F_impl_TraceOf_l1
  simp only
  rw [show decide ((2 : Int) < 2) = false by decide]
  rfl
 obtain ⟨k, hk⟩ : ∃ k, fuel = k + 1 + 1 + 1 := ⟨fuel - 3, by have := fuel_big (n := 3) (by omega); omega⟩
 rw [hk]
 simp only [whX, s0, s1, s2, Option.bind_some, orR]
theorem bl_impl {l l' : List TDyadic} (ol : okD l) (ll : l.length = 2 * 2) (ol' : okD l') (ll' : l'.length = 2 * 2) {i j : Nat} (hi : i < 3) (hj : j < 3) :
  ∃ x ok, F_impl_blochCell (TMatrix.mk 2 2 l) (TMatrix.mk 2 2 l') (i : Int) (j : Int) = some (x, ok) ∧ ((∃ z, blO l l' i j = some z ∧ x = z ∧ ok = true ∧ dOk z = true) ∨ (blO l l' i j = none ∧ ok = false)) := by
 obtain ⟨_, p2, p3, p4, p5⟩ := pau hi
 obtain ⟨_, q2, q3, q4, q5⟩ := pau hj
 have mk2 : ∀ {x : List TDyadic}, okD x → x.length = 2 * 2 → mOk (TMatrix.mk 2 2 x) = true := fun ox lx => m_make (R := 2) (C := 2) two_dim two_dim lx ox
 have hz : F_impl_MulDyadic dZero (TDyadic.mk (TRing.mk 1 0 0 0) 2) = some (dR (DM dZero dHalf)) := imM dZero_ok dHalf_ok
 unfold F_impl_blochCell blO
 rw [p2]
 simp only [Option.bind_some]
 rw [p3, q2]
 simp only [Option.bind_some]
 rw [q3]
 simp only [Option.bind_some]
 obtain ⟨a1, b1⟩ := im_mul (R := 2) (K := 2) (C := 2) (mk2 p5 p4) (mk2 ol ll)
 rw [show F_impl_MulMatrix (TMatrix.mk 2 2 (pauL i)) (TMatrix.mk 2 2 l) = _ from a1]
 cases h1 : mmO (pauL i) l 2 2 2 with
 | none =>
  simp only [mR, Option.bind_some, mul_bad, trace_bad, hz, Bool.false_and]
  exact ⟨_, _, rfl, .inr ⟨rfl, rfl⟩⟩
 | some l1 =>
  obtain ⟨o1, n1⟩ := b1 l1 h1
  simp only [mR, Option.bind_some]
  obtain ⟨a2, b2⟩ := im_mul (R := 2) (K := 2) (C := 2) (mk2 o1 n1) (mk2 q5 q4)
  rw [show F_impl_MulMatrix (TMatrix.mk ((2 : Nat) : Int) ((2 : Nat) : Int) l1) (TMatrix.mk 2 2 (pauL j)) = _ from a2]
  cases h2 : mmO l1 (pauL j) 2 2 2 with
  | none =>
   simp only [mR, Option.bind_some, mul_bad, trace_bad, hz, Bool.false_and, Bool.and_false]
   exact ⟨_, _, rfl, .inr ⟨rfl, rfl⟩⟩
  | some l2 =>
   obtain ⟨o2, n2⟩ := b2 l2 h2
   simp only [mR, Option.bind_some]
   obtain ⟨a3, b3⟩ := im_mul (R := 2) (K := 2) (C := 2) (mk2 o2 n2) (mk2 ol' ll')
   rw [show F_impl_MulMatrix (TMatrix.mk ((2 : Nat) : Int) ((2 : Nat) : Int) l2) (TMatrix.mk 2 2 l') = _ from a3]
   cases h3 : mmO l2 l' 2 2 2 with
   | none =>
    simp only [mR, Option.bind_some, trace_bad, hz, Bool.false_and, Bool.and_false]
    exact ⟨_, _, rfl, .inr ⟨rfl, rfl⟩⟩
   | some l3 =>
    obtain ⟨o3, n3⟩ := b3 l3 h3
    simp only [mR, Option.bind_some]
    rw [show F_impl_TraceOf (TMatrix.mk ((2 : Nat) : Int) ((2 : Nat) : Int) l3) = _ from trace_two o3 n3]
    obtain ⟨t, c4, e4, g4⟩ := srA (getD_ok o3 0) (getD_ok o3 3) false
    rcases g4.good with ⟨h4, rfl⟩ | ⟨h4, rfl⟩
    ·rw [h4]
     simp only [dR, Option.bind_some]
     rw [show F_impl_MulDyadic t (TDyadic.mk (TRing.mk 1 0 0 0) 2) = some (dR (DM t dHalf)) from imM g4.1 dHalf_ok]
     obtain ⟨z, c5, e5, g5⟩ := srM g4.1 dHalf_ok false
     rcases g5.good with ⟨h5, rfl⟩ | ⟨h5, rfl⟩
     ·rw [h5]
      exact ⟨_, _, rfl, .inl ⟨z, rfl, rfl, rfl, g5.1⟩⟩
     ·rw [h5]
      exact ⟨_, _, rfl, .inr ⟨rfl, rfl⟩⟩
    ·rw [h4]
     simp only [dR, Option.bind_some]
     rw [hz]
     simp only [Option.bind_some, Bool.and_false, Bool.false_and]
     exact ⟨_, _, rfl, .inr ⟨rfl, rfl⟩⟩
def bgO (l l' : List TDyadic) : Option (List TDyadic) := gridO (blO l l') 3 3
theorem bg_spec {l l' : List TDyadic} (ol : okD l) (ll : l.length = 2 * 2) (ol' : okD l') (ll' : l'.length = 2 * 2) (ha : F_spec_l3Adj (TMatrix.mk 2 2 l) = some (TMatrix.mk 2 2 l')) :
  F_spec_l9Bloch (TMatrix.mk 2 2 l) = some (match bgO l l' with | some x => (TBloch.mk x, true) | none => (TBloch.mk [], false)) := by
 have l2 : ∀ (i : Nat) (Cells : List TDyadic) (bad b0 : Bool) (s : List TDyadic), i < 3 → s.length = i * 3 → ∃ z b', forN (F_spec_l9Bloch_l2 i (TMatrix.mk 2 2 l) Cells bad) 3 0 (b0, s) = some (b', z) ∧ SR (fun z => z.length = i * 3 + 3) (forN (fun j s => (blO l l' i j).bind fun z => some (s ++ [z])) 3 0 s) b0 z b' := fun i Cells bad b0 s hi hs => by
  have := sr_it (f := F_spec_l9Bloch_l2 i (TMatrix.mk 2 2 l) Cells bad) (enc := fun b (l : List TDyadic) => (b, l)) (G := fun j (z : List TDyadic) => z.length = i * 3 + j) (st := fun j s => (blO l l' i j).bind fun z => some (s ++ [z])) (n := 3) (fun j b1 s hj hs => ?_) 3 0 s b0 (by omega) (by omega)
  ·rw [Nat.zero_add] at this; exact this
  ·obtain ⟨z, b', h1, h2⟩ := bl_spec ol ll ol' ll' ha hi hj Cells bad b1 s (by omega)
   exact ⟨s ++ [z], b', h1, h2.bind (SR.pure (by simp; omega))⟩
 obtain ⟨z, b', h1, h2⟩ := sr_it (f := F_spec_l9Bloch_l1 (TMatrix.mk 2 2 l)) (enc := fun b (l : List TDyadic) => (b, l)) (G := fun i (z : List TDyadic) => z.length = i * 3) (st := fun i s => forN (fun j s => (blO l l' i j).bind fun z => some (s ++ [z])) 3 0 s) (n := 3) (fun i b1 s hi hs => by
  obtain ⟨z, b', h1, h2⟩ := l2 i s b1 b1 s hi hs
  refine ⟨z, b', ?_, h2.mono (fun h => by omega)⟩
  unfold F_spec_l9Bloch_l1
  simp only
  rw [h1]; rfl) 3 0 [] false (by omega) rfl
 unfold F_spec_l9Bloch
 rw [show forN (F_spec_l9Bloch_l1 (TMatrix.mk 2 2 l)) 3 0 (false, []) = some (b', z) from h1]
 simp only [Option.bind_some]
 rcases h2.good with ⟨h3, rfl⟩ | ⟨h3, rfl⟩
 ·rw [show bgO l l' = some z from h3]; rfl
 ·rw [show bgO l l' = none from h3]; rfl
theorem bg_impl {l l' : List TDyadic} (ol : okD l) (ll : l.length = 2 * 2) (ol' : okD l') (ll' : l'.length = 2 * 2) :
  ((forX (F_impl_BlochOf_l1 (TMatrix.mk 2 2 l) (TMatrix.mk 2 2 l')) 3 0 []).bind <| orR fun Cells => some (((TBloch.mk Cells), true))) = some (match bgO l l' with | some x => (TBloch.mk x, true) | none => (TBloch.mk [], false)) ∧ ∀ x, bgO l l' = some x → x.length = 9 := by
 have l2 : ∀ (i : Nat) (s : List TDyadic), i < 3 → s.length = i * 3 → forX (F_impl_BlochOf_l2 (TMatrix.mk 2 2 l) (TMatrix.mk 2 2 l') i) 3 0 s = some (exO id (.rt (TBloch.mk [], false)) (forN (fun j s => (blO l l' i j).bind fun z => some (s ++ [z])) 3 0 s)) ∧
   ∀ z, forN (fun j s => (blO l l' i j).bind fun z => some (s ++ [z])) 3 0 s = some z → z.length = i * 3 + 3 := fun i s hi hs => by
  have := im_it (g := F_impl_BlochOf_l2 (TMatrix.mk 2 2 l) (TMatrix.mk 2 2 l') i) (enc := id) (G := fun j (z : List TDyadic) => z.length = i * 3 + j) (st := fun j s => (blO l l' i j).bind fun z => some (s ++ [z])) (R := Ex.rt (TBloch.mk [], false)) (n := 3) (fun j s hj hs => ?_) 3 0 s (by omega) (by omega)
  ·rw [Nat.zero_add] at this; exact this
  ·obtain ⟨x, ok, h1, h2⟩ := bl_impl ol ll ol' ll' hi hj
   unfold F_impl_BlochOf_l2
   simp only [id, h1, Option.bind_some]
   rcases h2 with ⟨z, h3, rfl, rfl, h4⟩ | ⟨h3, rfl⟩
   ·rw [h3]
    simp only [Bool.not_true, cond_false, Option.bind_some]
    rw [chk_t (by omega)]
    exact ⟨rfl, fun z' hz => by cases hz; simp; omega⟩
   ·rw [h3]
    exact ⟨rfl, fun z' hz => by cases hz⟩
 obtain ⟨h1, h2⟩ := im_it (g := F_impl_BlochOf_l1 (TMatrix.mk 2 2 l) (TMatrix.mk 2 2 l')) (enc := id) (G := fun i (z : List TDyadic) => z.length = i * 3) (st := fun i s => forN (fun j s => (blO l l' i j).bind fun z => some (s ++ [z])) 3 0 s) (R := (TBloch.mk [], false)) (n := 3) (fun i s hi hs => by
  obtain ⟨h1, h2⟩ := l2 i s hi hs
  unfold F_impl_BlochOf_l1
  simp only [id]
  rw [h1]
  cases hc : forN (fun j s => (blO l l' i j).bind fun z => some (s ++ [z])) 3 0 s with
  | none => exact ⟨rfl, fun z hz => by cases hz⟩
  | some z => exact ⟨rfl, fun z' hz => by cases hz; have := h2 z hc; omega⟩) 3 0 [] (by omega) rfl
 refine ⟨?_, fun x hx => by have := h2 x hx; omega⟩
 rw [show forX (F_impl_BlochOf_l1 (TMatrix.mk 2 2 l) (TMatrix.mk 2 2 l')) 3 0 [] = _ from h1]
 unfold bgO gridO
 cases forN (fun i l_1 => forN (fun j l_2 => (blO l l' i j).bind fun z => some (l_2 ++ [z])) 3 0 l_1) 3 0 [] <;> rfl
theorem bloch_both (m : TMatrix) (hl : m.Cells.length ≤ 1048576) : ∃ b ok, F_spec_BlochOf m = some (b, ok) ∧ F_impl_BlochOf m = some (b, ok) ∧ b.Cells.length ≤ 9 := by
 obtain ⟨g, h1, h2, h3⟩ := one_both m (by omega)
 unfold F_spec_BlochOf F_impl_BlochOf
 rw [h1, h2]
 simp only [Option.bind_some]
 cases g with
 | false => exact ⟨_, _, rfl, rfl, by decide⟩
 | true =>
  obtain ⟨hm, hr, hc⟩ := h3 rfl
  obtain ⟨R, C, l, rfl, d1, d2, b1, b2, ll, ol⟩ := m_parts hm
  obtain rfl : R = 2 := by simp only at hr; omega
  obtain rfl : C = 2 := by simp only at hc; omega
  obtain ⟨l', a1, a2, a3⟩ := adj_some (R := 2) (C := 2) ol
  have hs : F_spec_l3Adj (TMatrix.mk 2 2 l) = some (TMatrix.mk 2 2 l') := by
   have := spec_adj (R := 2) (C := 2) ol ll (by decide) (by decide)
   rw [a1] at this; exact this
  have hi := impl_adj (R := 2) (C := 2) hm
  rw [a1] at hi
  simp only [Bool.not_true, cond_false]
  obtain ⟨e1, e2⟩ := bg_impl ol ll a2 a3
  rw [show F_spec_l9Bloch (TMatrix.mk ((2 : Nat) : Int) ((2 : Nat) : Int) l) = _ from bg_spec ol ll a2 a3 hs, hi]
  simp only [mR, Option.bind_some]
  rw [show ((forX (F_impl_BlochOf_l1 (TMatrix.mk ((2 : Nat) : Int) ((2 : Nat) : Int) l) (TMatrix.mk ((2 : Nat) : Int) ((2 : Nat) : Int) l')) 3 0 []).bind <| orR fun Cells => some (((TBloch.mk Cells), true))) = _ from e1]
  cases hb : bgO l l' with
  | none => exact ⟨_, _, rfl, rfl, by decide⟩
  | some x => exact ⟨_, _, rfl, rfl, by have := e2 x hb; simp only; omega⟩

def nR (x : TRing) : Int := x.A * x.A + x.B * x.B + x.C * x.C + x.D * x.D
theorem nR_root (x : TRing) : nR (rRoot x) = 2 * nR x := by
 unfold nR rRoot; simp only; grind
theorem nR_it : ∀ (k : Nat) (x : TRing), nR (rIt k x) = 2 ^ k * nR x
 | 0, x => by show nR x = _; simp
 | k + 1, x => by
  show nR (rIt k (rRoot x)) = _
  rw [nR_it k, nR_root, Int.pow_succ]; grind
theorem nR_nn (x : TRing) : 0 ≤ nR x := by
 have a := sq_nonneg x.A
 have b := sq_nonneg x.B
 have c := sq_nonneg x.C
 have d := sq_nonneg x.D
 unfold nR; omega
theorem nR_plus (x y : TRing) : nR (rPlus x y) ≤ 2 * (nR x + nR y) := by
 have a := sq_nonneg (x.A - y.A)
 have b := sq_nonneg (x.B - y.B)
 have c := sq_nonneg (x.C - y.C)
 have d := sq_nonneg (x.D - y.D)
 unfold nR rPlus; simp only; grind
theorem dot4 (a b c d e f g h : Int) : (a * e + b * f + c * g + d * h) * (a * e + b * f + c * g + d * h) ≤ (a * a + b * b + c * c + d * d) * (e * e + f * f + g * g + h * h) := by
 have h1 := sq_nonneg (a * f - b * e)
 have h2 := sq_nonneg (a * g - c * e)
 have h3 := sq_nonneg (a * h - d * e)
 have h4 := sq_nonneg (b * g - c * f)
 have h5 := sq_nonneg (b * h - d * f)
 have h6 := sq_nonneg (c * h - d * g)
 have e1 : (a * a + b * b + c * c + d * d) * (e * e + f * f + g * g + h * h) - (a * e + b * f + c * g + d * h) * (a * e + b * f + c * g + d * h) = (a * f - b * e) * (a * f - b * e) + (a * g - c * e) * (a * g - c * e) + (a * h - d * e) * (a * h - d * e) + (b * g - c * f) * (b * g - c * f) + (b * h - d * f) * (b * h - d * f) + (c * h - d * g) * (c * h - d * g) := by grind
 omega
theorem nR_mul (x y : TRing) : nR (eMul x y) ≤ 4 * (nR x * nR y) := by
 have h1 := dot4 x.A x.B x.C x.D y.A (-y.D) (-y.C) (-y.B)
 have h2 := dot4 x.A x.B x.C x.D y.B y.A (-y.D) (-y.C)
 have h3 := dot4 x.A x.B x.C x.D y.C y.B y.A (-y.D)
 have h4 := dot4 x.A x.B x.C x.D y.D y.C y.B y.A
 have k1 : x.A * y.A - x.B * y.D - x.C * y.C - x.D * y.B = x.A * y.A + x.B * -y.D + x.C * -y.C + x.D * -y.B := by grind
 have k2 : x.A * y.B + x.B * y.A - x.C * y.D - x.D * y.C = x.A * y.B + x.B * y.A + x.C * -y.D + x.D * -y.C := by grind
 have k3 : x.A * y.C + x.B * y.B + x.C * y.A - x.D * y.D = x.A * y.C + x.B * y.B + x.C * y.A + x.D * -y.D := by grind
 have n1 : (x.A * x.A + x.B * x.B + x.C * x.C + x.D * x.D) * (y.A * y.A + -y.D * -y.D + -y.C * -y.C + -y.B * -y.B) = nR x * nR y := by unfold nR; grind
 have n2 : (x.A * x.A + x.B * x.B + x.C * x.C + x.D * x.D) * (y.B * y.B + y.A * y.A + -y.D * -y.D + -y.C * -y.C) = nR x * nR y := by unfold nR; grind
 have n3 : (x.A * x.A + x.B * x.B + x.C * x.C + x.D * x.D) * (y.C * y.C + y.B * y.B + y.A * y.A + -y.D * -y.D) = nR x * nR y := by unfold nR; grind
 have n4 : (x.A * x.A + x.B * x.B + x.C * x.C + x.D * x.D) * (y.D * y.D + y.C * y.C + y.B * y.B + y.A * y.A) = nR x * nR y := by unfold nR; grind
 rw [n1] at h1; rw [n2] at h2; rw [n3] at h3; rw [n4] at h4
 rw [← k1] at h1; rw [← k2] at h2; rw [← k3] at h3
 unfold eMul
 show _ * _ + _ * _ + _ * _ + _ * _ ≤ _
 simp only
 omega
theorem nR_ok {x : TRing} (h : nR x < 1000000000000000000) : rOk x = true := by
 have a := sq_nonneg x.A
 have b := sq_nonneg x.B
 have c := sq_nonneg x.C
 have d := sq_nonneg x.D
 unfold nR at h
 have key : ∀ t : Int, t * t < 1000000000000000000 → -1000000000 ≤ t ∧ t ≤ 1000000000 := fun t ht => sq_le (N := t * t) (M := 1000000000) (by decide) (by omega) (by omega)
 rw [rOk_iff]
 exact ⟨⟨key _ (by omega), key _ (by omega)⟩, ⟨key _ (by omega), key _ (by omega)⟩⟩
/-- A number of exponent e at most, whose value's measure is K at most. -/
def Bd (e : Nat) (K : Int) (x : TDyadic) : Prop := dOk x = true ∧ x.Exp ≤ (e : Int) ∧ nR (vOf x) ≤ K * 2 ^ 60
theorem p2_le {m n : Nat} (h : m ≤ n) : (2 : Int) ^ m ≤ 2 ^ n := by
 have := Nat.pow_le_pow_right (show 0 < 2 by decide) h
 exact_mod_cast this
theorem p2_pos (m : Nat) : (0 : Int) < 2 ^ m := by
 have := Nat.pow_pos (n := m) (show 0 < 2 by decide)
 exact_mod_cast this
theorem bd_it {e : Nat} {K : Int} {x : TDyadic} (h : Bd e K x) (he : e ≤ 60) (hK : 0 ≤ K) {j : Nat} (hj : (j : Int) + x.Exp ≤ (e : Int)) : nR (rIt j x.Num) ≤ K * 2 ^ e := by
 obtain ⟨h1, h2, h3⟩ := h
 obtain ⟨x1, x2, x3⟩ := d_parts h1
 unfold vOf at h3
 rw [nR_it] at h3 ⊢
 generalize nR x.Num = n at h3 ⊢
 generalize x.Exp = E at *
 obtain ⟨f, rfl⟩ : ∃ f : Nat, E = f := ⟨E.toNat, by omega⟩
 rw [show (60 - (f : Int)).toNat = 60 - f by omega] at h3
 have p1 : (2 : Int) ^ 60 = 2 ^ (60 - f) * 2 ^ f := by rw [← Int.pow_add]; congr 1; omega
 rw [p1] at h3
 have hn : n ≤ K * 2 ^ f := Int.le_of_mul_le_mul_left (a := 2 ^ (60 - f)) (by rw [← Int.mul_assoc, Int.mul_comm _ K, Int.mul_assoc]; exact h3) (p2_pos _)
 have s1 : (2 : Int) ^ j * n ≤ 2 ^ j * (K * 2 ^ f) := Int.mul_le_mul_of_nonneg_left hn (Int.le_of_lt (p2_pos j))
 have s2 : (2 : Int) ^ j * (K * 2 ^ f) = K * 2 ^ (j + f) := by rw [Int.pow_add]; grind
 have s3 : K * 2 ^ (j + f) ≤ K * 2 ^ e := Int.mul_le_mul_of_nonneg_left (p2_le (by omega)) hK
 omega
theorem DM_bd {e e' : Nat} {K K' : Int} {x y : TDyadic} (hx : Bd e K x) (hy : Bd e' K' y) (he : e + e' ≤ 60) (hK : 0 ≤ K) (hK' : 0 ≤ K') (hc : 4 * ((K * 2 ^ e) * (K' * 2 ^ e')) < 1000000000000000000) : ∃ z, DM x y = some z ∧ Bd (e + e') (4 * (K * K')) z := by
 have bx := bd_it hx (by omega) hK (j := 0) (by have := hx.2.1; omega)
 have b_y := bd_it hy (by omega) hK' (j := 0) (by have := hy.2.1; omega)
 have bx : nR x.Num ≤ K * 2 ^ e := bx
 have b_y : nR y.Num ≤ K' * 2 ^ e' := b_y
 obtain ⟨x1, x2, x3⟩ := d_parts hx.1
 obtain ⟨y1, y2, y3⟩ := d_parts hy.1
 have ex := hx.2.1
 have ey := hy.2.1
 have hmul := mul_exact x1 y1
 have hr : rOk (rMul x.Num y.Num) = true := by
  rw [hmul]
  refine nR_ok ?_
  have m1 := nR_mul x.Num y.Num
  have m2 : nR x.Num * nR y.Num ≤ (K * 2 ^ e) * (K' * 2 ^ e') := Int.mul_le_mul bx b_y (nR_nn _) (Int.mul_nonneg hK (Int.le_of_lt (p2_pos _)))
  omega
 have hw : IntKind.i64.wrap (x.Exp + y.Exp) = x.Exp + y.Exp := wr (by omega)
 obtain ⟨z, hz1, hz2, hz3⟩ := low_both hr (e := x.Exp + y.Exp) ⟨by omega, by omega⟩
 have hD : DM x y = some z := by
  unfold DM F_impl_MulDyadic
  rw [impl_rmul x1 y1, hr]
  simp only [Option.bind_some, impl_dyadic, hx.1, hy.1, gb, Bool.not_true, Bool.not_false, cond_true, Bool.false_or, hw, if_true, cond_false, hz2, Bool.or_self]
 refine ⟨z, hD, hz3, ?_, ?_⟩
 ·have := (low_val hr (e := x.Exp + y.Exp) ⟨by omega, by omega⟩ hz2).2.1
  omega
 ·have hv := congrArg nR (v_mul hx.1 hy.1 hD)
  rw [nR_it] at hv
  have m1 := nR_mul (vOf x) (vOf y)
  have m2 : nR (vOf x) * nR (vOf y) ≤ (K * 2 ^ 60) * (K' * 2 ^ 60) := Int.mul_le_mul hx.2.2 hy.2.2 (nR_nn _) (Int.mul_nonneg hK (by decide))
  have m3 : 4 * ((K * 2 ^ 60) * (K' * 2 ^ 60)) = 2 ^ 60 * (4 * (K * K') * 2 ^ 60) := by grind
  refine Int.le_of_mul_le_mul_left (a := 2 ^ 60) ?_ (by decide)
  rw [hv]; omega
theorem DA_bd {e : Nat} {K K' : Int} {x y : TDyadic} (hx : Bd e K x) (hy : Bd e K' y) (he : e ≤ 60) (hK : 0 ≤ K) (hK' : 0 ≤ K') (hc : 2 * (K * 2 ^ e + K' * 2 ^ e) < 1000000000000000000) : ∃ z, DA x y = some z ∧ Bd e (2 * (K + K')) z := by
 obtain ⟨x1, x2, x3⟩ := d_parts hx.1
 obtain ⟨y1, y2, y3⟩ := d_parts hy.1
 have ex := hx.2.1
 have ey := hy.2.1
 have k1 : 0 ≤ K * 2 ^ e := Int.mul_nonneg hK (Int.le_of_lt (p2_pos _))
 have k2 : 0 ≤ K' * 2 ^ e := Int.mul_nonneg hK' (Int.le_of_lt (p2_pos _))
 generalize hE : (if x.Exp < y.Exp then y.Exp else x.Exp) = E
 have b1 : x.Exp ≤ E := by rw [← hE]; split <;> omega
 have b2 : y.Exp ≤ E := by rw [← hE]; split <;> omega
 have b3 : E ≤ (e : Int) := by rw [← hE]; split <;> omega
 have rx : ∀ j : Nat, j ≤ (E - x.Exp).toNat → nR (rIt j x.Num) ≤ K * 2 ^ e := fun j hj => bd_it hx he hK (by omega)
 have ry : ∀ j : Nat, j ≤ (E - y.Exp).toNat → nR (rIt j y.Num) ≤ K' * 2 ^ e := fun j hj => bd_it hy he hK' (by omega)
 obtain ⟨a, oa, a1, a2, a3, a4⟩ := raised_some hx.1 b1 (by omega)
 obtain ⟨c, oc, c1, c2, c3, c4⟩ := raised_some hy.1 b2 (by omega)
 obtain rfl : oa = true := a4 fun j hj => nR_ok (by have := rx j hj; omega)
 obtain rfl : oc = true := c4 fun j hj => nR_ok (by have := ry j hj; omega)
 have hcb := comb_add hx.1 hy.1 hE a1 c1 a2 c2
 have hadd : rAdd a c = rPlus a c := by
  rw [rOk_iff] at a2 c2
  show TRing.mk (IntKind.i64.wrap (a.A + c.A)) (IntKind.i64.wrap (a.B + c.B)) (IntKind.i64.wrap (a.C + c.C)) (IntKind.i64.wrap (a.D + c.D)) = _
  rw [wr (a := a.A + c.A) (by omega), wr (a := a.B + c.B) (by omega), wr (a := a.C + c.C) (by omega), wr (a := a.D + c.D) (by omega)]
  rfl
 have hr : rOk (rAdd a c) = true := by
  rw [hadd, a3 rfl, c3 rfl]
  refine nR_ok ?_
  have m1 := nR_plus (rIt (E - x.Exp).toNat x.Num) (rIt (E - y.Exp).toNat y.Num)
  have m2 := rx _ (Nat.le_refl _)
  have m3 := ry _ (Nat.le_refl _)
  omega
 obtain ⟨z, hz1, hz2, hz3⟩ := low_both hr (e := E) ⟨by omega, by omega⟩
 have hD : DA x y = some z := by
  unfold DA
  rw [hcb, hr]
  simp only [Bool.and_self, cond_true, hz2, Option.bind_some, if_true]
 refine ⟨z, hD, hz3, ?_, ?_⟩
 ·have := (low_val hr (e := E) ⟨by omega, by omega⟩ hz2).2.1
  omega
 ·rw [da_val hx.1 hy.1 hD]
  have m1 := nR_plus (vOf x) (vOf y)
  have m2 := hx.2.2
  have m3 := hy.2.2
  have m4 : 2 * (K + K') * 2 ^ 60 = 2 * (K * 2 ^ 60 + K' * 2 ^ 60) := by grind
  omega

theorem Bd.mono {e f : Nat} {K L : Int} {x : TDyadic} (h : Bd e K x) (he : e ≤ f) (hK : K ≤ L) : Bd f L x := by
 obtain ⟨h1, h2, h3⟩ := h
 exact ⟨h1, by omega, by omega⟩
theorem bd_zero (e : Nat) {K : Int} (hK : 0 ≤ K) : Bd e K dZero := by
 refine ⟨dZero_ok, by show (0 : Int) ≤ e; omega, ?_⟩
 rw [show vOf dZero = rZero from v_dz']
 show (0 : Int) ≤ _
 omega
/-- A list whose numbers are all small. -/
def BL (e : Nat) (K : Int) (l : List TDyadic) : Prop := ∀ p, Bd e K (l.getD p dZero)
theorem bl_ok {e : Nat} {K : Int} {l : List TDyadic} (h : BL e K l) : okD l := fun z hz => by
 obtain ⟨p, hp, rfl⟩ := List.mem_iff_getElem.1 hz
 have := (h p).1
 rwa [List.getD_eq_getElem?_getD, List.getElem?_eq_getElem hp] at this
theorem dot_bd {e e' : Nat} {K K' : Int} {X Y : Nat → TDyadic} (hX : ∀ k, Bd e K (X k)) (hY : ∀ k, Bd e' K' (Y k)) (he : e + e' ≤ 60) (hK : 0 ≤ K) (hK' : 0 ≤ K') (hc : 24 * (K * K') * 2 ^ (e + e') < 1000000000000000000) : ∃ z, forN (dotS X Y) 2 0 dZero = some z ∧ Bd (e + e') (24 * (K * K')) z := by
 have hKK : 0 ≤ K * K' := Int.mul_nonneg hK hK'
 have c0 : (K * 2 ^ e) * (K' * 2 ^ e') = (K * K') * 2 ^ (e + e') := by rw [Int.pow_add]; grind
 have c1 : 0 ≤ (K * K') * 2 ^ (e + e') := Int.mul_nonneg hKK (Int.le_of_lt (p2_pos _))
 have c2 : 24 * (K * K') * 2 ^ (e + e') = 24 * ((K * K') * 2 ^ (e + e')) := by grind
 have c3 : 4 * (K * K') * 2 ^ (e + e') = 4 * ((K * K') * 2 ^ (e + e')) := by grind
 obtain ⟨p0, h0, b0⟩ := DM_bd (hX 0) (hY 0) he hK hK' (by omega)
 obtain ⟨p1, h1, b1⟩ := DM_bd (hX 1) (hY 1) he hK hK' (by omega)
 obtain ⟨s0, g0, d0⟩ := DA_bd (bd_zero (e + e') (K := 0) (by decide)) b0 he (by decide) (by omega) (by omega)
 have c4 : 2 * (0 + 4 * (K * K')) * 2 ^ (e + e') = 8 * ((K * K') * 2 ^ (e + e')) := by grind
 obtain ⟨s1, g1, d1⟩ := DA_bd d0 b1 he (by omega) (by omega) (by omega)
 refine ⟨s1, ?_, d1.mono (Nat.le_refl _) (by omega)⟩
 simp only [forN, dotS, h0, h1, Option.bind_some, g0, g1]
theorem mm_bd {e e' : Nat} {K K' : Int} {a b : List TDyadic} (ha : BL e K a) (hb : BL e' K' b) (he : e + e' ≤ 60) (hK : 0 ≤ K) (hK' : 0 ≤ K') (hc : 24 * (K * K') * 2 ^ (e + e') < 1000000000000000000) : ∃ l, mmO a b 2 2 2 = some l ∧ BL (e + e') (24 * (K * K')) l ∧ l.length = 4 := by
 have hKK : 0 ≤ K * K' := Int.mul_nonneg hK hK'
 have hcell : ∀ i j : Nat, ∃ z, mmCell a b 2 2 i j = some z ∧ Bd (e + e') (24 * (K * K')) z := fun i j => dot_bd (fun k => ha _) (fun k => hb _) he hK hK' hc
 obtain ⟨z0, h0, b0⟩ := hcell 0 0
 obtain ⟨z1, h1, b1⟩ := hcell 0 1
 obtain ⟨z2, h2, b2⟩ := hcell 1 0
 obtain ⟨z3, h3, b3⟩ := hcell 1 1
 refine ⟨[z0, z1, z2, z3], ?_, fun p => ?_, rfl⟩
 ·simp [mmO, gridO, forN, h0, h1, h2, h3]
 ·match p with
  | 0 => exact b0
  | 1 => exact b1
  | 2 => exact b2
  | 3 => exact b3
  | p + 4 => exact bd_zero _ (by omega)
/-- The columns weigh one. -/
def Uni (l : List TDyadic) : Prop := ∀ j, j < 2 → gram l 2 2 j j = rIt 120 rOne'
theorem one_120 : (rIt 120 rOne').A = 2 ^ 60 := by decide +kernel
theorem aSq_A (x : TRing) : (aSq x x).A = nR x := by
 unfold aSq eMul rConj nR; simp only; grind
theorem uni_n {l : List TDyadic} (h : Uni l) {i j : Nat} (hi : i < 2) (hj : j < 2) : nR (vM l 2 i j) ≤ 1 * 2 ^ 60 := by
 have h1 := congrArg TRing.A (h j hj)
 rw [one_120] at h1
 have h2 : (gram l 2 2 j j).A = 0 + (aSq (vM l 2 0 j) (vM l 2 0 j)).A + (aSq (vM l 2 1 j) (vM l 2 1 j)).A := rfl
 rw [h2, aSq_A, aSq_A] at h1
 have n0 := nR_nn (vM l 2 0 j)
 have n1 := nR_nn (vM l 2 1 j)
 match i, hi with
 | 0, _ => omega
 | 1, _ => omega
theorem uni_bl {l : List TDyadic} {e : Nat} {K : Int} (h : Uni l) (hb : BL e K l) (hl : l.length = 4) : BL e 1 l := fun p => by
 refine ⟨(hb p).1, (hb p).2.1, ?_⟩
 have n00 : nR (vOf (l.getD 0 dZero)) ≤ 1 * 2 ^ 60 := uni_n h (i := 0) (j := 0) (by decide) (by decide)
 have n01 : nR (vOf (l.getD 1 dZero)) ≤ 1 * 2 ^ 60 := uni_n h (i := 0) (j := 1) (by decide) (by decide)
 have n10 : nR (vOf (l.getD 2 dZero)) ≤ 1 * 2 ^ 60 := uni_n h (i := 1) (j := 0) (by decide) (by decide)
 have n11 : nR (vOf (l.getD 3 dZero)) ≤ 1 * 2 ^ 60 := uni_n h (i := 1) (j := 1) (by decide) (by decide)
 match p with
 | 0 => exact n00
 | 1 => exact n01
 | 2 => exact n10
 | 3 => exact n11
 | p + 4 =>
  rw [List.getD_eq_getElem?_getD, List.getElem?_eq_none (by omega)]
  exact (bd_zero e (K := 1) (by decide)).2.2
theorem pc_small : ∀ k : Fin 8, (phD (k.val : Int)).Exp ≤ 1 ∧ nR (vOf (phD (k.val : Int))) ≤ 1 * 2 ^ 60 := by decide +kernel
theorem pc_bd (o : Option Nat) : Bd 1 1 (pc o) := by
 cases o with
 | none => exact bd_zero 1 (by decide)
 | some k => exact ⟨pc_ok _, (pc_small ⟨k % 8, by omega⟩).1, (pc_small ⟨k % 8, by omega⟩).2⟩
theorem h_small : Bd 1 1 (TDyadic.mk (TRing.mk (-1) 0 0 0) 1) ∧ Bd 1 1 (TDyadic.mk rOne' 1) := by unfold Bd; decide +kernel
theorem gate_bd {g : TGate} (hg : gOk (1 : Nat) g = true) : BL 1 1 (gL 1 g) ∧ (gL 1 g).length = 4 := by
 have hn : 1 ≤ 1 ∧ 1 ≤ 5 := by decide
 obtain ⟨_, _, og, lg⟩ := gate_both hn hg
 have hcell : ∀ i j, i < 2 → j < 2 → Bd 1 1 ((gL 1 g).getD (i * 2 + j) dZero) := fun i j hi hj => by
  have hget : (gL 1 g).getD (i * 2 + j) dZero = gcD 1 g i j := gL_get (n := 1) hn hg hi hj
  rw [hget]
  by_cases h1 : g.Kind = 1
  ·obtain ⟨a, ha⟩ : ∃ a : Nat, g.A = a := by
    rcases gOk_cases hg with h | h | h
    ·exact ⟨g.A.toNat, by omega⟩
    ·omega
    ·omega
   rw [sg_one (n := 1) (k := 1) hn hg (by rw [h1]; rfl) ⟨by decide, by decide⟩ ha hi hj]
   split
   ·rw [show enD ((1 : Nat) : Int) (bi i (1 - 1 - a)) (bi j (1 - 1 - a)) = _ from en_h ⟨_, bi_lt _ _⟩ ⟨_, bi_lt _ _⟩]
    split
    ·exact h_small.1
    ·exact h_small.2
   ·exact bd_zero 1 (by decide)
  ·have h2 := sg_cell (n := 1) hn hg h1 hi hj
   have h3 := (gc_both (n := 1) hn hg hi hj).1
   rw [h2] at h3
   rw [← Option.some.inj h3]
   exact pc_bd _
 have lg : (gL 1 g).length = 4 := lg
 refine ⟨fun p => ?_, lg⟩
 match p with
 | 0 => exact hcell 0 0 (by decide) (by decide)
 | 1 => exact hcell 0 1 (by decide) (by decide)
 | 2 => exact hcell 1 0 (by decide) (by decide)
 | 3 => exact hcell 1 1 (by decide) (by decide)
 | p + 4 =>
  rw [List.getD_eq_getElem?_getD, List.getElem?_eq_none (by omega)]
  exact bd_zero 1 (by decide)
theorem run_bd : ∀ (gs : List TGate), gs.all (gOk (1 : Nat)) = true → ∀ (k : Nat) (l : List TDyadic), gs.length + k ≤ 10 → BL k 1 l → l.length = 4 → Uni l → ∃ l', runO 1 2 gs l = some l' ∧ BL 10 1 l' ∧ l'.length = 4
 | [], _, k, l, hk, hb, hl, _ => ⟨l, rfl, fun p => (hb p).mono (by simpa using hk) (Int.le_refl _), hl⟩
 | g :: t, hg, k, l, hk, hb, hl, hu => by
  simp only [List.all_cons, Bool.and_eq_true] at hg
  simp only [List.length_cons] at hk
  obtain ⟨g1, g2⟩ := gate_bd hg.1
  have hp : (2 : Int) ^ (1 + k) ≤ 2 ^ 11 := p2_le (by omega)
  obtain ⟨x, x1, x2, x3⟩ := mm_bd g1 hb (by omega) (by decide) (by decide) (by omega)
  have hux : Uni x := fun j hj => by
   have := gram_step (n := 1) (E := 2) (by decide) hg.1 (bl_ok hb) x1 (j := j) (m := j) hj hj
   exact this.trans (hu j hj)
  have hxb : BL (k + 1) 1 x := fun p => (uni_bl hux x2 x3 p).mono (by omega) (Int.le_refl _)
  obtain ⟨l', r1, r2⟩ := run_bd t hg.2 (k + 1) x (by omega) hxb x3 hux
  refine ⟨l', ?_, r2⟩
  rw [run_cons, show mmO (gL 1 g) l (2 ^ 1) (2 ^ 1) 2 = _ from x1]
  exact r1
theorem unit_bd : ∀ p : Fin 4, Bd 0 1 ((unitL 2).getD p.val dZero) := by unfold Bd; decide +kernel
theorem unit_bl : BL 0 1 (unitL 2) := fun p => by
 by_cases h : p < 4
 ·exact unit_bd ⟨p, h⟩
 ·rw [List.getD_eq_getElem?_getD, List.getElem?_eq_none (by rw [unit_len]; omega)]
  exact bd_zero 0 (by decide)
theorem unit_uni : Uni (unitL 2) := fun j hj => by
 match j, hj with
 | 0, _ => decide +kernel
 | 1, _ => decide +kernel
/-- The operator of ten gates on one qubit is in bounds. -/
theorem ten_bd {gs : List TGate} (hg : gs.all (gOk (1 : Nat)) = true) (h : gs.length ≤ 10) : ∃ l, runO 1 2 gs (unitL 2) = some l ∧ BL 10 1 l ∧ l.length = 4 := run_bd gs hg 0 (unitL 2) (by omega) unit_bl rfl unit_uni
theorem adj_bd {l l' : List TDyadic} {e : Nat} {K : Int} (hK : 0 ≤ K) (hb : BL e K l) (h : adO l 2 2 = some l') : BL e K l' ∧ l'.length = 4 := by
 obtain ⟨h1, h2⟩ := adj_get h
 have hc : ∀ x : TDyadic, Bd e K x → Bd e K (dConj x) := fun x hx => by
  refine ⟨conj_ok hx.1, hx.2.1, ?_⟩
  rw [v_conj]
  have : nR (rConj (vOf x)) = nR (vOf x) := by unfold nR rConj; simp only; grind
  rw [this]; exact hx.2.2
 have h3 : ∀ i j, i < 2 → j < 2 → Bd e K (l'.getD (i * 2 + j) dZero) := fun i j hi hj => by rw [h2 i j hi hj]; exact hc _ (hb _)
 refine ⟨fun p => ?_, h1⟩
 match p with
 | 0 => exact h3 0 0 (by decide) (by decide)
 | 1 => exact h3 0 1 (by decide) (by decide)
 | 2 => exact h3 1 0 (by decide) (by decide)
 | 3 => exact h3 1 1 (by decide) (by decide)
 | p + 4 =>
  rw [List.getD_eq_getElem?_getD, List.getElem?_eq_none (by omega)]
  exact bd_zero e hK

theorem pau_bds : ∀ (i : Fin 3) (p : Fin 4), Bd 0 1 ((pauL i.val).getD p.val dZero) := by unfold Bd; decide +kernel
theorem pau_bl {i : Nat} (h : i < 3) : BL 0 1 (pauL i) := fun p => by
 by_cases hp : p < 4
 ·exact pau_bds ⟨i, h⟩ ⟨p, hp⟩
 ·rw [List.getD_eq_getElem?_getD, List.getElem?_eq_none (by rw [(pau h).2.2.2.1]; omega)]
  exact bd_zero 0 (by decide)
theorem half_bd : Bd 2 1 dHalf := by unfold Bd; decide +kernel
def dI (n : Int) : TDyadic := TDyadic.mk (TRing.mk n 0 0 0) 0
def wordsL : List (List UInt8) := [[], [72], [83], [72, 83], [83, 72], [83, 83], [72, 83, 72], [72, 83, 83], [83, 72, 83], [83, 83, 72], [83, 83, 83], [72, 83, 72, 83], [72, 83, 83, 72], [72, 83, 83, 83], [83, 72, 83, 83], [83, 83, 72, 83], [72, 83, 72, 83, 83], [72, 83, 83, 72, 83], [83, 72, 83, 83, 72], [83, 72, 83, 83, 83], [83, 83, 72, 83, 83], [72, 83, 72, 83, 83, 72], [72, 83, 72, 83, 83, 83], [72, 83, 83, 72, 83, 83]]
def listL : List (List TDyadic) := [[dI 1, dI 0, dI 0, dI 0, dI 1, dI 0, dI 0, dI 0, dI 1], [dI 0, dI 0, dI 1, dI 0, dI (-1), dI 0, dI 1, dI 0, dI 0], [dI 0, dI (-1), dI 0, dI 1, dI 0, dI 0, dI 0, dI 0, dI 1], [dI 0, dI 1, dI 0, dI 0, dI 0, dI 1, dI 1, dI 0, dI 0], [dI 0, dI 0, dI 1, dI (-1), dI 0, dI 0, dI 0, dI (-1), dI 0], [dI (-1), dI 0, dI 0, dI 0, dI (-1), dI 0, dI 0, dI 0, dI 1], [dI 1, dI 0, dI 0, dI 0, dI 0, dI (-1), dI 0, dI 1, dI 0], [dI 0, dI 0, dI (-1), dI 0, dI 1, dI 0, dI 1, dI 0, dI 0], [dI 1, dI 0, dI 0, dI 0, dI 0, dI 1, dI 0, dI (-1), dI 0], [dI 0, dI 0, dI 1, dI 0, dI 1, dI 0, dI (-1), dI 0, dI 0], [dI 0, dI 1, dI 0, dI (-1), dI 0, dI 0, dI 0, dI 0, dI 1], [dI 0, dI 0, dI 1, dI 1, dI 0, dI 0, dI 0, dI 1, dI 0], [dI 1, dI 0, dI 0, dI 0, dI (-1), dI 0, dI 0, dI 0, dI (-1)], [dI 0, dI (-1), dI 0, dI 0, dI 0, dI (-1), dI 1, dI 0, dI 0], [dI 0, dI 0, dI (-1), dI 1, dI 0, dI 0, dI 0, dI (-1), dI 0], [dI 0, dI (-1), dI 0, dI 0, dI 0, dI 1, dI (-1), dI 0, dI 0], [dI (-1), dI 0, dI 0, dI 0, dI 0, dI 1, dI 0, dI 1, dI 0], [dI 0, dI 1, dI 0, dI 1, dI 0, dI 0, dI 0, dI 0, dI (-1)], [dI 0, dI (-1), dI 0, dI (-1), dI 0, dI 0, dI 0, dI 0, dI (-1)], [dI (-1), dI 0, dI 0, dI 0, dI 0, dI (-1), dI 0, dI (-1), dI 0], [dI 0, dI 0, dI (-1), dI 0, dI (-1), dI 0, dI (-1), dI 0, dI 0], [dI 0, dI 1, dI 0, dI 0, dI 0, dI (-1), dI (-1), dI 0, dI 0], [dI 0, dI 0, dI (-1), dI (-1), dI 0, dI 0, dI 0, dI 1, dI 0], [dI (-1), dI 0, dI 0, dI 0, dI 1, dI 0, dI 0, dI 0, dI (-1)]]
def hB : TBloch := TBloch.mk [dI 0, dI 0, dI 1, dI 0, dI (-1), dI 0, dI 1, dI 0, dI 0]
def sB : TBloch := TBloch.mk [dI 0, dI (-1), dI 0, dI 1, dI 0, dI 0, dI 0, dI 0, dI 1]
theorem gate_h : F_impl_blochGate 1 = some hB := by decide +kernel
theorem gate_s : F_impl_blochGate 5 = some sB := by decide +kernel
theorem whX_nx {σ ρ : Type} {f : σ → Option (Ex σ ρ)} {k : Nat} {s s' : σ} (h : f s = some (.nx s')) : whX f (k + 1) s = whX f k s' := by simp only [whX, h, Option.bind_some]
theorem whX_br {σ ρ : Type} {f : σ → Option (Ex σ ρ)} {k : Nat} {s s' : σ} (h : f s = some (.br s')) : whX f (k + 1) s = some (.inl s') := by simp only [whX, h, Option.bind_some]
theorem cl_of {k k' : Int} {W W' : List (List UInt8)} {L L' : List (List TDyadic)} (h : forN (F_impl_cliffordList_l3 hB sB k) 2 0 (W, L) = some (W', L')) (hk : decide (k < (W.length : Int)) = true) (hw : IntKind.i64.wrap (k + 1) = k') : F_impl_cliffordList_l2 hB sB (W, L, k) = some (.nx (W', L', k')) := by
 unfold F_impl_cliffordList_l2
 simp only [hk, cond_true, h, Option.bind_some, hw]
theorem cf_0 : forN (F_impl_cliffordList_l3 hB sB 0) 2 0 (wordsL.take 1, listL.take 1) = some (wordsL.take 3, listL.take 3) := by decide +kernel
theorem cl_0 : F_impl_cliffordList_l2 hB sB (wordsL.take 1, listL.take 1, 0) = some (.nx (wordsL.take 3, listL.take 3, 1)) := cl_of cf_0 rfl rfl
theorem cf_1 : forN (F_impl_cliffordList_l3 hB sB 1) 2 0 (wordsL.take 3, listL.take 3) = some (wordsL.take 4, listL.take 4) := by decide +kernel
theorem cl_1 : F_impl_cliffordList_l2 hB sB (wordsL.take 3, listL.take 3, 1) = some (.nx (wordsL.take 4, listL.take 4, 2)) := cl_of cf_1 rfl rfl
theorem cf_2 : forN (F_impl_cliffordList_l3 hB sB 2) 2 0 (wordsL.take 4, listL.take 4) = some (wordsL.take 6, listL.take 6) := by decide +kernel
theorem cl_2 : F_impl_cliffordList_l2 hB sB (wordsL.take 4, listL.take 4, 2) = some (.nx (wordsL.take 6, listL.take 6, 3)) := cl_of cf_2 rfl rfl
theorem cf_3 : forN (F_impl_cliffordList_l3 hB sB 3) 2 0 (wordsL.take 6, listL.take 6) = some (wordsL.take 8, listL.take 8) := by decide +kernel
theorem cl_3 : F_impl_cliffordList_l2 hB sB (wordsL.take 6, listL.take 6, 3) = some (.nx (wordsL.take 8, listL.take 8, 4)) := cl_of cf_3 rfl rfl
theorem cf_4 : forN (F_impl_cliffordList_l3 hB sB 4) 2 0 (wordsL.take 8, listL.take 8) = some (wordsL.take 9, listL.take 9) := by decide +kernel
theorem cl_4 : F_impl_cliffordList_l2 hB sB (wordsL.take 8, listL.take 8, 4) = some (.nx (wordsL.take 9, listL.take 9, 5)) := cl_of cf_4 rfl rfl
theorem cf_5 : forN (F_impl_cliffordList_l3 hB sB 5) 2 0 (wordsL.take 9, listL.take 9) = some (wordsL.take 11, listL.take 11) := by decide +kernel
theorem cl_5 : F_impl_cliffordList_l2 hB sB (wordsL.take 9, listL.take 9, 5) = some (.nx (wordsL.take 11, listL.take 11, 6)) := cl_of cf_5 rfl rfl
theorem cf_6 : forN (F_impl_cliffordList_l3 hB sB 6) 2 0 (wordsL.take 11, listL.take 11) = some (wordsL.take 12, listL.take 12) := by decide +kernel
theorem cl_6 : F_impl_cliffordList_l2 hB sB (wordsL.take 11, listL.take 11, 6) = some (.nx (wordsL.take 12, listL.take 12, 7)) := cl_of cf_6 rfl rfl
theorem cf_7 : forN (F_impl_cliffordList_l3 hB sB 7) 2 0 (wordsL.take 12, listL.take 12) = some (wordsL.take 14, listL.take 14) := by decide +kernel
theorem cl_7 : F_impl_cliffordList_l2 hB sB (wordsL.take 12, listL.take 12, 7) = some (.nx (wordsL.take 14, listL.take 14, 8)) := cl_of cf_7 rfl rfl
theorem cf_8 : forN (F_impl_cliffordList_l3 hB sB 8) 2 0 (wordsL.take 14, listL.take 14) = some (wordsL.take 15, listL.take 15) := by decide +kernel
theorem cl_8 : F_impl_cliffordList_l2 hB sB (wordsL.take 14, listL.take 14, 8) = some (.nx (wordsL.take 15, listL.take 15, 9)) := cl_of cf_8 rfl rfl
theorem cf_9 : forN (F_impl_cliffordList_l3 hB sB 9) 2 0 (wordsL.take 15, listL.take 15) = some (wordsL.take 16, listL.take 16) := by decide +kernel
theorem cl_9 : F_impl_cliffordList_l2 hB sB (wordsL.take 15, listL.take 15, 9) = some (.nx (wordsL.take 16, listL.take 16, 10)) := cl_of cf_9 rfl rfl
theorem cf_10 : forN (F_impl_cliffordList_l3 hB sB 10) 2 0 (wordsL.take 16, listL.take 16) = some (wordsL.take 16, listL.take 16) := by decide +kernel
theorem cl_10 : F_impl_cliffordList_l2 hB sB (wordsL.take 16, listL.take 16, 10) = some (.nx (wordsL.take 16, listL.take 16, 11)) := cl_of cf_10 rfl rfl
theorem cf_11 : forN (F_impl_cliffordList_l3 hB sB 11) 2 0 (wordsL.take 16, listL.take 16) = some (wordsL.take 17, listL.take 17) := by decide +kernel
theorem cl_11 : F_impl_cliffordList_l2 hB sB (wordsL.take 16, listL.take 16, 11) = some (.nx (wordsL.take 17, listL.take 17, 12)) := cl_of cf_11 rfl rfl
theorem cf_12 : forN (F_impl_cliffordList_l3 hB sB 12) 2 0 (wordsL.take 17, listL.take 17) = some (wordsL.take 18, listL.take 18) := by decide +kernel
theorem cl_12 : F_impl_cliffordList_l2 hB sB (wordsL.take 17, listL.take 17, 12) = some (.nx (wordsL.take 18, listL.take 18, 13)) := cl_of cf_12 rfl rfl
theorem cf_13 : forN (F_impl_cliffordList_l3 hB sB 13) 2 0 (wordsL.take 18, listL.take 18) = some (wordsL.take 18, listL.take 18) := by decide +kernel
theorem cl_13 : F_impl_cliffordList_l2 hB sB (wordsL.take 18, listL.take 18, 13) = some (.nx (wordsL.take 18, listL.take 18, 14)) := cl_of cf_13 rfl rfl
theorem cf_14 : forN (F_impl_cliffordList_l3 hB sB 14) 2 0 (wordsL.take 18, listL.take 18) = some (wordsL.take 20, listL.take 20) := by decide +kernel
theorem cl_14 : F_impl_cliffordList_l2 hB sB (wordsL.take 18, listL.take 18, 14) = some (.nx (wordsL.take 20, listL.take 20, 15)) := cl_of cf_14 rfl rfl
theorem cf_15 : forN (F_impl_cliffordList_l3 hB sB 15) 2 0 (wordsL.take 20, listL.take 20) = some (wordsL.take 21, listL.take 21) := by decide +kernel
theorem cl_15 : F_impl_cliffordList_l2 hB sB (wordsL.take 20, listL.take 20, 15) = some (.nx (wordsL.take 21, listL.take 21, 16)) := cl_of cf_15 rfl rfl
theorem cf_16 : forN (F_impl_cliffordList_l3 hB sB 16) 2 0 (wordsL.take 21, listL.take 21) = some (wordsL.take 23, listL.take 23) := by decide +kernel
theorem cl_16 : F_impl_cliffordList_l2 hB sB (wordsL.take 21, listL.take 21, 16) = some (.nx (wordsL.take 23, listL.take 23, 17)) := cl_of cf_16 rfl rfl
theorem cf_17 : forN (F_impl_cliffordList_l3 hB sB 17) 2 0 (wordsL.take 23, listL.take 23) = some (wordsL.take 24, listL.take 24) := by decide +kernel
theorem cl_17 : F_impl_cliffordList_l2 hB sB (wordsL.take 23, listL.take 23, 17) = some (.nx (wordsL.take 24, listL.take 24, 18)) := cl_of cf_17 rfl rfl
theorem cf_18 : forN (F_impl_cliffordList_l3 hB sB 18) 2 0 (wordsL.take 24, listL.take 24) = some (wordsL.take 24, listL.take 24) := by decide +kernel
theorem cl_18 : F_impl_cliffordList_l2 hB sB (wordsL.take 24, listL.take 24, 18) = some (.nx (wordsL.take 24, listL.take 24, 19)) := cl_of cf_18 rfl rfl
theorem cf_19 : forN (F_impl_cliffordList_l3 hB sB 19) 2 0 (wordsL.take 24, listL.take 24) = some (wordsL.take 24, listL.take 24) := by decide +kernel
theorem cl_19 : F_impl_cliffordList_l2 hB sB (wordsL.take 24, listL.take 24, 19) = some (.nx (wordsL.take 24, listL.take 24, 20)) := cl_of cf_19 rfl rfl
theorem cf_20 : forN (F_impl_cliffordList_l3 hB sB 20) 2 0 (wordsL.take 24, listL.take 24) = some (wordsL.take 24, listL.take 24) := by decide +kernel
theorem cl_20 : F_impl_cliffordList_l2 hB sB (wordsL.take 24, listL.take 24, 20) = some (.nx (wordsL.take 24, listL.take 24, 21)) := cl_of cf_20 rfl rfl
theorem cf_21 : forN (F_impl_cliffordList_l3 hB sB 21) 2 0 (wordsL.take 24, listL.take 24) = some (wordsL.take 24, listL.take 24) := by decide +kernel
theorem cl_21 : F_impl_cliffordList_l2 hB sB (wordsL.take 24, listL.take 24, 21) = some (.nx (wordsL.take 24, listL.take 24, 22)) := cl_of cf_21 rfl rfl
theorem cf_22 : forN (F_impl_cliffordList_l3 hB sB 22) 2 0 (wordsL.take 24, listL.take 24) = some (wordsL.take 24, listL.take 24) := by decide +kernel
theorem cl_22 : F_impl_cliffordList_l2 hB sB (wordsL.take 24, listL.take 24, 22) = some (.nx (wordsL.take 24, listL.take 24, 23)) := cl_of cf_22 rfl rfl
theorem cf_23 : forN (F_impl_cliffordList_l3 hB sB 23) 2 0 (wordsL.take 24, listL.take 24) = some (wordsL.take 24, listL.take 24) := by decide +kernel
theorem cl_23 : F_impl_cliffordList_l2 hB sB (wordsL.take 24, listL.take 24, 23) = some (.nx (wordsL.take 24, listL.take 24, 24)) := cl_of cf_23 rfl rfl
theorem cl_24 : F_impl_cliffordList_l2 hB sB (wordsL.take 24, listL.take 24, 24) = some (.br (wordsL, listL, 24)) := rfl
theorem cl_loop (n : Nat) : whX (F_impl_cliffordList_l2 hB sB) (n + 25) (wordsL.take 1, listL.take 1, 0) = some (.inl (wordsL, listL, 24)) := by
 rw [whX_nx cl_0, whX_nx cl_1, whX_nx cl_2, whX_nx cl_3, whX_nx cl_4, whX_nx cl_5, whX_nx cl_6, whX_nx cl_7, whX_nx cl_8, whX_nx cl_9, whX_nx cl_10, whX_nx cl_11, whX_nx cl_12, whX_nx cl_13, whX_nx cl_14, whX_nx cl_15, whX_nx cl_16, whX_nx cl_17, whX_nx cl_18, whX_nx cl_19, whX_nx cl_20, whX_nx cl_21, whX_nx cl_22, whX_nx cl_23]
 exact whX_br cl_24
theorem cl_one : forN F_impl_cliffordList_l1 9 0 [] = some [dI 1, dI 0, dI 0, dI 0, dI 1, dI 0, dI 0, dI 0, dI 1] := by decide +kernel
theorem list_impl : F_impl_cliffordList = some (wordsL, listL) := by
 unfold F_impl_cliffordList
 rw [cl_one, gate_h, gate_s]
 simp only [Option.bind_some]
 have := cl_loop (fuel - 25)
 rw [show fuel - 25 + 25 = fuel from rfl] at this
 rw [show (([[]] : List (List UInt8)), ([[dI 1, dI 0, dI 0, dI 0, dI 1, dI 0, dI 0, dI 0, dI 1]] : List (List TDyadic)), (0 : Int)) = (wordsL.take 1, listL.take 1, 0) from rfl, this]
 rfl

theorem dg (X Y : Nat → TDyadic) {z : TDyadic} (h : forN (dotS X Y) 3 0 dZero = some z) : ∃ p0 p1 p2 s0 s1, DM (X 0) (Y 0) = some p0 ∧ DA dZero p0 = some s0 ∧ DM (X 1) (Y 1) = some p1 ∧ DA s0 p1 = some s1 ∧ DM (X 2) (Y 2) = some p2 ∧ DA s1 p2 = some z := by
 simp only [forN, dotS] at h
 obtain ⟨s0, h0, h⟩ := Option.bind_eq_some_iff.1 h
 obtain ⟨p0, a0, b0⟩ := Option.bind_eq_some_iff.1 h0
 obtain ⟨s1, h1, h⟩ := Option.bind_eq_some_iff.1 h
 obtain ⟨p1, a1, b1⟩ := Option.bind_eq_some_iff.1 h1
 obtain ⟨s2, h2, h⟩ := Option.bind_eq_some_iff.1 h
 obtain ⟨p2, a2, b2⟩ := Option.bind_eq_some_iff.1 h2
 cases h
 exact ⟨p0, p1, p2, s0, s1, a0, b0, a1, b1, a2, b2⟩
theorem mb_cells {a b : List TDyadic} {l : List TDyadic} (h : mbO a b = some l) : ∃ z00 z01 z02 z10 z11 z12 z20 z21 z22, l = [z00, z01, z02, z10, z11, z12, z20, z21, z22] ∧ mbCell a b 0 0 = some z00 ∧ mbCell a b 1 1 = some z11 ∧ mbCell a b 2 2 = some z22 := by
 simp only [mbO, mbRow, forN] at h
 obtain ⟨r0, h0, h⟩ := Option.bind_eq_some_iff.1 h
 obtain ⟨r1, h1, h⟩ := Option.bind_eq_some_iff.1 h
 obtain ⟨r2, h2, h⟩ := Option.bind_eq_some_iff.1 h
 cases h
 have row : ∀ {i : Nat} {s r : List TDyadic}, (((mbCell a b i 0).bind fun z => some (s ++ [z])).bind fun s => ((mbCell a b i (0 + 1)).bind fun z => some (s ++ [z])).bind fun s => ((mbCell a b i (0 + 1 + 1)).bind fun z => some (s ++ [z])).bind fun s => some s) = some r →
   ∃ x y z, mbCell a b i 0 = some x ∧ mbCell a b i 1 = some y ∧ mbCell a b i 2 = some z ∧ r = s ++ [x] ++ [y] ++ [z] := fun {i s r} h => by
  obtain ⟨s1, h1, h⟩ := Option.bind_eq_some_iff.1 h
  obtain ⟨x, hx, h1⟩ := Option.bind_eq_some_iff.1 h1
  cases h1
  obtain ⟨s1, h1, h⟩ := Option.bind_eq_some_iff.1 h
  obtain ⟨y, hy, h1⟩ := Option.bind_eq_some_iff.1 h1
  cases h1
  obtain ⟨s1, h1, h⟩ := Option.bind_eq_some_iff.1 h
  obtain ⟨z, hz, h1⟩ := Option.bind_eq_some_iff.1 h1
  cases h1
  cases h
  exact ⟨x, y, z, hx, hy, hz, rfl⟩
 obtain ⟨a0, a1, a2, q0, _, _, rfl⟩ := row h0
 obtain ⟨b0, b1, b2, _, q1, _, rfl⟩ := row h1
 obtain ⟨c0, c1, c2, _, _, q2, rfl⟩ := row h2
 exact ⟨a0, a1, a2, b0, b1, b2, c0, c1, c2, rfl, q0, q1, q2⟩
theorem v_zero : vOf dZero = rReal 0 0 := by decide +kernel
theorem v_one : vOf dOne = rReal 1073741824 0 := by decide +kernel
theorem real_of {x : TDyadic} (h : realB x = true) : dOk x = true ∧ x.Num = rReal x.Num.A x.Num.B := by
 unfold realB at h
 simp only [Bool.and_eq_true, beq_iff_eq] at h
 have hr := (d_parts h.1.1).1
 rw [rOk_iff] at hr
 rw [wr (by omega)] at h
 refine ⟨h.1.1, ?_⟩
 obtain ⟨⟨A, B, C, D⟩, e⟩ := x
 simp only [rReal, TRing.mk.injEq] at *
 exact ⟨trivial, trivial, h.1.2, h.2⟩
theorem sq_val {x p : TDyadic} (h : realB x = true) (hp : DM x x = some p) : x.Exp ≤ 30 ∧ ∃ Q, vOf p = rReal (2 ^ (30 - x.Exp).toNat * (x.Num.A * x.Num.A + 2 * (x.Num.B * x.Num.B))) Q := by
 obtain ⟨h1, h2⟩ := real_of h
 obtain ⟨x1, x2, x3⟩ := d_parts h1
 obtain ⟨e1, e2⟩ := dm_val h1 h1 hp
 refine ⟨by omega, 2 ^ (30 - x.Exp).toNat * (2 * (x.Num.A * x.Num.B)), ?_⟩
 rw [e2]
 have hs : rMul x.Num x.Num = rReal (x.Num.A * x.Num.A + 2 * (x.Num.B * x.Num.B)) (2 * (x.Num.A * x.Num.B)) := by
  have hr : rOk (rReal x.Num.A x.Num.B) = true := by rw [← h2]; exact x1
  have := real_sq hr
  rw [← h2] at this
  exact this
 rw [hs, show (60 - (x.Exp + x.Exp)).toNat = 2 * (30 - x.Exp).toNat by omega, real_it2]
theorem row_bound {x0 x1 x2 : TDyadic} (r0 : realB x0 = true) (r1 : realB x1 = true) (r2 : realB x2 = true) (X : Nat → TDyadic) (hX0 : X 0 = x0) (hX1 : X 1 = x1) (hX2 : X 2 = x2) (h : forN (dotS X X) 3 0 dZero = some dOne) :
  ∀ x, (x = x0 ∨ x = x1 ∨ x = x2) → x.Exp ≤ 30 ∧ x.Num.A * x.Num.A + 2 * (x.Num.B * x.Num.B) ≤ 2 ^ x.Exp.toNat := by
 obtain ⟨p0, p1, p2, s0, s1, a0, b0, a1, b1, a2, b2⟩ := dg X X h
 rw [hX0] at a0
 rw [hX1] at a1
 rw [hX2] at a2
 have o0 := (real_of r0).1
 have o1 := (real_of r1).1
 have o2 := (real_of r2).1
 have k0 := dm_ok o0 o0 a0
 have k1 := dm_ok o1 o1 a1
 have k2 := dm_ok o2 o2 a2
 have t0 := da_ok dZero_ok k0 b0
 have t1 := da_ok t0 k1 b1
 obtain ⟨e0, Q0, v0⟩ := sq_val r0 a0
 obtain ⟨e1, Q1, v1⟩ := sq_val r1 a1
 obtain ⟨e2, Q2, v2⟩ := sq_val r2 a2
 have w0 := da_val dZero_ok k0 b0
 have w1 := da_val t0 k1 b1
 have w2 := da_val t1 k2 b2
 rw [w1, w0, v0, v1, v2, v_zero, v_one] at w2
 have hA := congrArg TRing.A w2
 simp only [rPlus, rReal] at hA
 have pos : ∀ x : TDyadic, 0 ≤ (2 : Int) ^ (30 - x.Exp).toNat * (x.Num.A * x.Num.A + 2 * (x.Num.B * x.Num.B)) := fun x => by
  have q1 := sq_nonneg x.Num.A
  have q2 := sq_nonneg x.Num.B
  exact Int.mul_nonneg (Int.le_of_lt (Int.pow_pos (by decide))) (by omega)
 have fin : ∀ x : TDyadic, dOk x = true → x.Exp ≤ 30 → (2 : Int) ^ (30 - x.Exp).toNat * (x.Num.A * x.Num.A + 2 * (x.Num.B * x.Num.B)) ≤ 1073741824 → x.Exp ≤ 30 ∧ x.Num.A * x.Num.A + 2 * (x.Num.B * x.Num.B) ≤ 2 ^ x.Exp.toNat := fun x ho he hx => by
  refine ⟨he, ?_⟩
  have := (d_parts ho).2.1
  have hp : (2 : Int) ^ (30 - x.Exp).toNat * 2 ^ x.Exp.toNat = 1073741824 := by
   rw [← Int.pow_add, show (30 - x.Exp).toNat + x.Exp.toNat = 30 by omega]; decide
  rw [← hp] at hx
  exact Int.le_of_mul_le_mul_left hx (Int.pow_pos (by decide))
 have q0 := pos x0
 have q1 := pos x1
 have q2 := pos x2
 rintro x (rfl | rfl | rfl)
 ·exact fin _ o0 e0 (by omega)
 ·exact fin _ o1 e1 (by omega)
 ·exact fin _ o2 e2 (by omega)
theorem bv_bound {l : List TDyadic} (h : bvO l = true) : l.length = 9 ∧ ∀ x ∈ l, realB x = true ∧ x.Exp ≤ 30 ∧ x.Num.A * x.Num.A + 2 * (x.Num.B * x.Num.B) ≤ 2 ^ x.Exp.toNat := by
 unfold bvO at h
 simp only [Bool.and_eq_true, decide_eq_true_eq] at h
 obtain ⟨⟨h1, h2⟩, h3⟩ := h
 refine ⟨h1, ?_⟩
 obtain ⟨x0, x1, x2, x3, x4, x5, x6, x7, x8, rfl⟩ := nine h1
 cases hm : mbO [x0, x1, x2, x3, x4, x5, x6, x7, x8] (turn9 [x0, x1, x2, x3, x4, x5, x6, x7, x8]) with
 | none => rw [hm] at h3; simp at h3
 | some p =>
  have hp : p = unit9 := by
   rw [hm] at h3
   cases hd : detO [x0, x1, x2, x3, x4, x5, x6, x7, x8] with
   | none => rw [hd] at h3; simp at h3
   | some d =>
    rw [hd] at h3
    simp only [Bool.and_eq_true, decide_eq_true_eq] at h3
    exact h3.1
  subst hp
  obtain ⟨z00, z01, z02, z10, z11, z12, z20, z21, z22, e, c0, c1, c2⟩ := mb_cells hm
  unfold unit9 at e
  simp only [List.cons.injEq, and_true] at e
  obtain ⟨rfl, _, _, _, rfl, _, _, _, rfl⟩ := e
  have hr : ∀ x ∈ [x0, x1, x2, x3, x4, x5, x6, x7, x8], realB x = true := fun x hx => List.all_eq_true.1 h2 x hx
  have k0 := row_bound (hr x0 (by simp)) (hr x1 (by simp)) (hr x2 (by simp)) (fun k => [x0, x1, x2, x3, x4, x5, x6, x7, x8].getD (3 * 0 + k) dZero) rfl rfl rfl (by
   rw [← c0]; unfold mbCell; simp only [forN, dotS]; rfl)
  have k1 := row_bound (hr x3 (by simp)) (hr x4 (by simp)) (hr x5 (by simp)) (fun k => [x0, x1, x2, x3, x4, x5, x6, x7, x8].getD (3 * 1 + k) dZero) rfl rfl rfl (by
   rw [← c1]; unfold mbCell; simp only [forN, dotS]; rfl)
  have k2 := row_bound (hr x6 (by simp)) (hr x7 (by simp)) (hr x8 (by simp)) (fun k => [x0, x1, x2, x3, x4, x5, x6, x7, x8].getD (3 * 2 + k) dZero) rfl rfl rfl (by
   rw [← c2]; unfold mbCell; simp only [forN, dotS]; rfl)
  intro x hx
  refine ⟨hr x hx, ?_⟩
  simp only [List.mem_cons, List.not_mem_nil, or_false] at hx
  rcases hx with rfl | rfl | rfl | rfl | rfl | rfl | rfl | rfl | rfl
  ·exact k0 _ (.inl rfl)
  ·exact k0 _ (.inr (.inl rfl))
  ·exact k0 _ (.inr (.inr rfl))
  ·exact k1 _ (.inl rfl)
  ·exact k1 _ (.inr (.inl rfl))
  ·exact k1 _ (.inr (.inr rfl))
  ·exact k2 _ (.inl rfl)
  ·exact k2 _ (.inr (.inl rfl))
  ·exact k2 _ (.inr (.inr rfl))
theorem oneQubit_d : Dr F_spec_l1Cur_oneQubit (fun m => ∃ l, m = TMatrix.mk 2 2 l ∧ BL 10 1 l ∧ l.length = 4) 1000 := fun code a s k hb h0 h1 h2 => by
 unfold F_spec_l1Cur_oneQubit
 obtain ⟨c, a1, s1, e1, ⟨p1, p2, p3⟩, q1, r1⟩ := built_d 1 (by decide) 10 (by decide) [1, 1, 7, 7, 5, 3, 8, 12, 2] (by decide) (by decide) code a s k hb h0 h1 h2
 simp only at e1
 rw [show F_spec_l1Cur_built (Tl1Cur.mk code a s) 1 10 [1, 1, 7, 7, 5, 3, 8, 12, 2] = _ from e1]
 simp only [Option.bind_some]
 obtain ⟨Q, gs⟩ := c
 simp only at p1 p2 p3
 subst p1
 obtain ⟨l, l1, l2, l3⟩ := ten_bd p3 p2
 have hop : F_spec_l6Op (TCircuit.mk ((1 : Nat) : Int) gs) = some (TMatrix.mk 2 2 l) := by
  unfold F_spec_l6Op
  obtain ⟨l', b, t1, t2⟩ := sp_run (n := 1) (E := 2) (x := TCircuit.mk 1 gs) (by decide) rfl p3 (by simp only; omega) (by decide) (unit_ok 2) (unit_len 2) false
  simp only
  rw [chk_t (by rw [wru (by omega)]; omega), show shlK .i64 1 (IntKind.u64.wrap ((1 : Nat) : Int)) = ((2 : Nat) : Int) from shl_u (n := 1) (by decide), unit_spec 2 (by decide)]
  simp only [Option.bind_some]
  rw [show F_spec_l2C_run (Tl2C.mk false) (TCircuit.mk ((1 : Nat) : Int) gs) (TMatrix.mk (2 : Nat) (2 : Nat) (unitL 2)) = _ from t1]
  rcases t2.2.2 rfl with ⟨p, rfl⟩ | ⟨p, rfl⟩
  ·have p : runO 1 2 gs (unitL 2) = some l' := p
   rw [l1] at p
   cases p
   rfl
  ·have p : runO 1 2 gs (unitL 2) = none := p
   rw [l1] at p
   cases p
 rw [hop]
 exact ⟨_, _, _, rfl, ⟨l, rfl, l2, l3⟩, q1, r1⟩
inductive PE where
 | v (i : Nat) : PE
 | k (n : Int) : PE
 | a (x y : PE) : PE
 | m (x y : PE) : PE
def rK (n : Int) : TRing := TRing.mk n 0 0 0
def evP (ρ : Nat → TRing) : PE → TRing
 | .v i => ρ i
 | .k n => rK n
 | .a x y => rPlus (evP ρ x) (evP ρ y)
 | .m x y => eMul (evP ρ x) (evP ρ y)
def mnEv (ρ : Nat → TRing) : List Nat → TRing
 | [] => rK 1
 | i :: t => eMul (ρ i) (mnEv ρ t)
def pnEv (ρ : Nat → TRing) : List (List Nat × Int) → TRing
 | [] => rZero
 | (s, c) :: t => rPlus (eMul (rK c) (mnEv ρ s)) (pnEv ρ t)
def mnIns (i : Nat) : List Nat → List Nat
 | [] => [i]
 | j :: t => bif Nat.ble i j then i :: j :: t else j :: mnIns i t
def mnMul : List Nat → List Nat → List Nat
 | [], t => t
 | i :: s, t => mnIns i (mnMul s t)
def mnEq : List Nat → List Nat → Bool
 | [], [] => true
 | i :: s, j :: t => Nat.beq i j && mnEq s t
 | _, _ => false
def mnLt : List Nat → List Nat → Bool
 | [], [] => false
 | [], _ :: _ => true
 | _ :: _, [] => false
 | i :: s, j :: t => bif Nat.beq i j then mnLt s t else Nat.blt i j
def iZ : Int → Bool
 | .ofNat n => Nat.beq n 0
 | .negSucc _ => false
def pnK (s : List Nat) (c : Int) (t : List (List Nat × Int)) : List (List Nat × Int) := bif iZ c then t else (s, c) :: t
def pnAdd1 (s : List Nat) (c : Int) : List (List Nat × Int) → List (List Nat × Int)
 | [] => pnK s c []
 | (s', c') :: t => bif mnEq s s' then pnK s' (c + c') t else bif mnLt s s' then (s, c) :: (s', c') :: t else (s', c') :: pnAdd1 s c t
def pnAdd : List (List Nat × Int) → List (List Nat × Int) → List (List Nat × Int)
 | [], q => q
 | (s, c) :: p, q => pnAdd1 s c (pnAdd p q)
def pnMul1 (s : List Nat) (c : Int) : List (List Nat × Int) → List (List Nat × Int)
 | [] => []
 | (s', c') :: q => pnAdd1 (mnMul s s') (c * c') (pnMul1 s c q)
def pnMul : List (List Nat × Int) → List (List Nat × Int) → List (List Nat × Int)
 | [], _ => []
 | (s, c) :: p, q => pnAdd (pnMul1 s c q) (pnMul p q)
def pnOf : PE → List (List Nat × Int)
 | .v i => [([i], 1)]
 | .k n => pnK [] n []
 | .a x y => pnAdd (pnOf x) (pnOf y)
 | .m x y => pnMul (pnOf x) (pnOf y)
def pnZ : List (List Nat × Int) → Bool
 | [] => true
 | (_, c) :: t => iZ c && pnZ t
theorem rK_one (x : TRing) : eMul (rK 1) x = x := by simp [eMul, rK]
theorem rK_zero (x : TRing) : eMul (rK 0) x = rZero := by simp [eMul, rK, rZero]
theorem rK_add (a b : Int) : rK (a + b) = rPlus (rK a) (rK b) := by simp [rK, rPlus]
theorem rK_mul (a b : Int) : rK (a * b) = eMul (rK a) (rK b) := by simp [rK, eMul]
theorem plus_mulR (x y z : TRing) : eMul (rPlus x y) z = rPlus (eMul x z) (eMul y z) := by rw [eMul_comm, eMul_plus, eMul_comm z x, eMul_comm z y]
theorem plus_swap (x y z : TRing) : rPlus x (rPlus y z) = rPlus y (rPlus x z) := by rw [← plus_assoc, plus_comm x y, plus_assoc]
theorem mul_swap (x y z : TRing) : eMul x (eMul y z) = eMul y (eMul x z) := by rw [← eMul_assoc, eMul_comm x y, eMul_assoc]
theorem mnIns_ev (ρ : Nat → TRing) (i : Nat) : ∀ t, mnEv ρ (mnIns i t) = eMul (ρ i) (mnEv ρ t)
 | [] => rfl
 | j :: t => by
  unfold mnIns
  cases Nat.ble i j with
  | true => rfl
  | false =>
   simp only [cond_false]
   show eMul (ρ j) (mnEv ρ (mnIns i t)) = eMul (ρ i) (eMul (ρ j) (mnEv ρ t))
   rw [mnIns_ev ρ i t, mul_swap]
theorem mnMul_ev (ρ : Nat → TRing) : ∀ s t, mnEv ρ (mnMul s t) = eMul (mnEv ρ s) (mnEv ρ t)
 | [], t => (rK_one _).symm
 | i :: s, t => by
  show mnEv ρ (mnIns i (mnMul s t)) = eMul (eMul (ρ i) (mnEv ρ s)) (mnEv ρ t)
  rw [mnIns_ev, mnMul_ev ρ s t, eMul_assoc]
theorem mnEq_eq : ∀ {s t : List Nat}, mnEq s t = true → s = t
 | [], [], _ => rfl
 | [], _ :: _, h => by cases h
 | _ :: _, [], h => by cases h
 | i :: s, j :: t, h => by
  unfold mnEq at h
  simp only [Bool.and_eq_true] at h
  rw [Nat.eq_of_beq_eq_true h.1, mnEq_eq h.2]
theorem iZ_eq : ∀ {c : Int}, iZ c = true → c = 0
 | .ofNat n, h => by
  have : n = 0 := Nat.eq_of_beq_eq_true h
  subst this; rfl
 | .negSucc _, h => by cases h
theorem pnK_ev (ρ : Nat → TRing) (s : List Nat) (c : Int) (t) : pnEv ρ (pnK s c t) = rPlus (eMul (rK c) (mnEv ρ s)) (pnEv ρ t) := by
 unfold pnK
 cases h : iZ c with
 | false => rfl
 | true =>
  obtain rfl := iZ_eq h
  rw [rK_zero, zero_plus]; rfl
theorem pnAdd1_ev (ρ : Nat → TRing) (s : List Nat) (c : Int) : ∀ q, pnEv ρ (pnAdd1 s c q) = rPlus (eMul (rK c) (mnEv ρ s)) (pnEv ρ q)
 | [] => pnK_ev ρ s c []
 | (s', c') :: t => by
  unfold pnAdd1
  cases h : mnEq s s' with
  | true =>
   obtain rfl := mnEq_eq h
   simp only [cond_true]
   show pnEv ρ (pnK s (c + c') t) = rPlus (eMul (rK c) (mnEv ρ s)) (rPlus (eMul (rK c') (mnEv ρ s)) (pnEv ρ t))
   rw [pnK_ev, rK_add, plus_mulR, plus_assoc]
  | false =>
   cases mnLt s s' with
   | true => rfl
   | false =>
    simp only [cond_false]
    show rPlus (eMul (rK c') (mnEv ρ s')) (pnEv ρ (pnAdd1 s c t)) = rPlus (eMul (rK c) (mnEv ρ s)) (rPlus (eMul (rK c') (mnEv ρ s')) (pnEv ρ t))
    rw [pnAdd1_ev ρ s c t, plus_swap]
theorem pnAdd_ev (ρ : Nat → TRing) : ∀ p q, pnEv ρ (pnAdd p q) = rPlus (pnEv ρ p) (pnEv ρ q)
 | [], q => (zero_plus _).symm
 | (s, c) :: p, q => by
  show pnEv ρ (pnAdd1 s c (pnAdd p q)) = rPlus (rPlus (eMul (rK c) (mnEv ρ s)) (pnEv ρ p)) (pnEv ρ q)
  rw [pnAdd1_ev, pnAdd_ev ρ p q, plus_assoc]
theorem pnMul1_ev (ρ : Nat → TRing) (s : List Nat) (c : Int) : ∀ q, pnEv ρ (pnMul1 s c q) = eMul (eMul (rK c) (mnEv ρ s)) (pnEv ρ q)
 | [] => (eMul_zero _).symm
 | (s', c') :: q => by
  show pnEv ρ (pnAdd1 (mnMul s s') (c * c') (pnMul1 s c q)) = eMul (eMul (rK c) (mnEv ρ s)) (rPlus (eMul (rK c') (mnEv ρ s')) (pnEv ρ q))
  rw [pnAdd1_ev, pnMul1_ev ρ s c q, mnMul_ev, eMul_plus, rK_mul]
  congr 1
  rw [eMul_assoc, eMul_assoc, mul_swap (rK c') (mnEv ρ s) _]
theorem pnMul_ev (ρ : Nat → TRing) : ∀ p q, pnEv ρ (pnMul p q) = eMul (pnEv ρ p) (pnEv ρ q)
 | [], q => (zero_mul' _).symm
 | (s, c) :: p, q => by
  show pnEv ρ (pnAdd (pnMul1 s c q) (pnMul p q)) = eMul (rPlus (eMul (rK c) (mnEv ρ s)) (pnEv ρ p)) (pnEv ρ q)
  rw [pnAdd_ev, pnMul1_ev, pnMul_ev ρ p q, plus_mulR]
theorem pnOf_ev (ρ : Nat → TRing) : ∀ e, pnEv ρ (pnOf e) = evP ρ e
 | .v i => by
  show rPlus (eMul (rK 1) (eMul (ρ i) (rK 1))) rZero = ρ i
  rw [rK_one, plus_zero, eMul_comm, rK_one]
 | .k n => by
  show pnEv ρ (pnK [] n []) = rK n
  rw [pnK_ev]
  show rPlus (eMul (rK n) (rK 1)) rZero = rK n
  rw [plus_zero, eMul_comm, rK_one]
 | .a x y => by
  show pnEv ρ (pnAdd (pnOf x) (pnOf y)) = _
  rw [pnAdd_ev, pnOf_ev ρ x, pnOf_ev ρ y]; rfl
 | .m x y => by
  show pnEv ρ (pnMul (pnOf x) (pnOf y)) = _
  rw [pnMul_ev, pnOf_ev ρ x, pnOf_ev ρ y]; rfl
theorem pnZ_ev (ρ : Nat → TRing) : ∀ {p}, pnZ p = true → pnEv ρ p = rZero
 | [], _ => rfl
 | (s, c) :: t, h => by
  unfold pnZ at h
  simp only [Bool.and_eq_true] at h
  obtain ⟨h0, h⟩ := h
  obtain rfl := iZ_eq h0
  show rPlus (eMul (rK 0) (mnEv ρ s)) (pnEv ρ t) = rZero
  rw [rK_zero, zero_plus, pnZ_ev ρ h]
/-- x less y. -/
def PE.s (x y : PE) : PE := .a x (.m (.k (-1)) y)
theorem plus_cancel {x y : TRing} (h : rPlus x (eMul (rK (-1)) y) = rZero) : x = y := by
 obtain ⟨a, b, c, d⟩ := x
 obtain ⟨a', b', c', d'⟩ := y
 simp only [rPlus, eMul, rK, rZero, TRing.mk.injEq] at h ⊢
 omega
/-- The sum of multiples of what is zero. -/
def pComb (rl : Nat → PE) : List (List (List Nat × Int) × Nat) → List (List Nat × Int)
 | [] => []
 | (c, k) :: t => pnAdd (pnMul c (pnOf (rl k))) (pComb rl t)
theorem pComb_zero (ρ : Nat → TRing) {rl : Nat → PE} (H : ∀ k, evP ρ (rl k) = rZero) : ∀ l, pnEv ρ (pComb rl l) = rZero
 | [] => rfl
 | (c, k) :: t => by
  show pnEv ρ (pnAdd (pnMul c (pnOf (rl k))) (pComb rl t)) = rZero
  rw [pnAdd_ev, pnMul_ev, pnOf_ev, H k, eMul_zero, zero_plus, pComb_zero ρ H t]
/-- Two polynomials are equal where those that stand in the certificate are zero. -/
theorem poly_r (ρ : Nat → TRing) {rl : Nat → PE} (H : ∀ k, evP ρ (rl k) = rZero) (x y : PE) (l : List (List (List Nat × Int) × Nat)) (hz : pnZ (pnAdd (pnOf (PE.s x y)) (pnMul1 [] (-1) (pComb rl l))) = true) : evP ρ x = evP ρ y := by
 have h1 := pnZ_ev ρ hz
 rw [pnAdd_ev, pnMul1_ev, pComb_zero ρ H, eMul_zero, plus_zero, pnOf_ev] at h1
 exact plus_cancel h1
theorem poly_eq0 (ρ : Nat → TRing) (x y : PE) (hz : pnZ (pnOf (PE.s x y)) = true) : evP ρ x = evP ρ y := by
 have h1 := pnZ_ev ρ hz
 rw [pnOf_ev] at h1
 exact plus_cancel h1

def pPE (i p : Nat) : PE := match i, p with | 0, 1 => .k 1 | 0, 2 => .k 1 | 1, 1 => .m (.k (-1)) (.v 8) | 1, 2 => .v 8 | 2, 0 => .k 1 | 2, 3 => .k (-1) | _, _ => .k 0
def mmPE (A B : Nat → PE) (p : Nat) : PE := .a (.a (.k 0) (.m (A (p / 2 * 2)) (B (p % 2)))) (.m (A (p / 2 * 2 + 1)) (B (2 + p % 2)))
def tPE (A A1 : Nat → PE) (i j : Nat) : PE := .a (mmPE (mmPE (mmPE (pPE i) A) (pPE j)) A1 0) (mmPE (mmPE (mmPE (pPE i) A) (pPE j)) A1 3)
def mV (o p : Nat) : PE := .v (o + p)
def mW (o p : Nat) : PE := .v (o + 4 + (match p with | 1 => 2 | 2 => 1 | q => q))
def rl0 : Nat → PE
 | 0 => .a (.m (.v 0) (.v 4)) (.a (.m (.v 1) (.v 5)) (.m (.k (-1)) (.v 9)))
 | 1 => .a (.m (.v 2) (.v 6)) (.a (.m (.v 3) (.v 7)) (.m (.k (-1)) (.v 9)))
 | 2 => .a (.m (.v 0) (.v 6)) (.m (.v 1) (.v 7))
 | 3 => .a (.m (.v 2) (.v 4)) (.m (.v 3) (.v 5))
 | 4 => .a (.m (.v 0) (.v 4)) (.a (.m (.v 2) (.v 6)) (.m (.k (-1)) (.v 9)))
 | 5 => .a (.m (.v 1) (.v 5)) (.a (.m (.v 3) (.v 7)) (.m (.k (-1)) (.v 9)))
 | 6 => .a (.m (.v 0) (.v 5)) (.m (.v 2) (.v 7))
 | 7 => .a (.m (.v 1) (.v 4)) (.m (.v 3) (.v 6))
 | 8 => .a (.k (1)) (.m (.v 8) (.v 8))
 | _ => .k 0
def shPE : PE → PE
 | .v i => if i < 8 then .v (i + 10) else .v i
 | .k n => .k n
 | .a x y => .a (shPE x) (shPE y)
 | .m x y => .m (shPE x) (shPE y)
def rl (k : Nat) : PE := if k < 9 then rl0 k else if k < 17 then shPE (rl0 (k - 9)) else .k 0
def rlR (k : Nat) : PE := if k < 4 then rl0 k else .k 0
theorem col_4 (ρ : Nat → TRing) (H : ∀ k, evP ρ (rlR k) = rZero) : evP ρ (.m (.v 9) (rl0 4)) = evP ρ (.k 0) := poly_r ρ H _ _ [([([3,7],1)],0),([([0,4],-1),([9],1)],1),([([3,5],-1)],2),([([0,6],1)],3)] (by decide +kernel)
theorem col_5 (ρ : Nat → TRing) (H : ∀ k, evP ρ (rlR k) = rZero) : evP ρ (.m (.v 9) (rl0 5)) = evP ρ (.k 0) := poly_r ρ H _ _ [([([2,6],1)],0),([([1,5],-1),([9],1)],1),([([2,4],-1)],2),([([1,7],1)],3)] (by decide +kernel)
theorem col_6 (ρ : Nat → TRing) (H : ∀ k, evP ρ (rlR k) = rZero) : evP ρ (.m (.v 9) (rl0 6)) = evP ρ (.k 0) := poly_r ρ H _ _ [([([2,7],-1)],0),([([0,5],-1)],1),([([2,5],1)],2),([([0,7],1)],3)] (by decide +kernel)
theorem col_7 (ρ : Nat → TRing) (H : ∀ k, evP ρ (rlR k) = rZero) : evP ρ (.m (.v 9) (rl0 7)) = evP ρ (.k 0) := poly_r ρ H _ _ [([([3,6],-1)],0),([([1,4],-1)],1),([([3,4],1)],2),([([1,6],1)],3)] (by decide +kernel)
/-- Rows. -/
def oPE (i k : Nat) : PE := .a (.a (.a (.k 0) (.m (tPE (mV 0) (mW 0) i 0) (tPE (mV 0) (mW 0) k 0))) (.m (tPE (mV 0) (mW 0) i 1) (tPE (mV 0) (mW 0) k 1))) (.m (tPE (mV 0) (mW 0) i 2) (tPE (mV 0) (mW 0) k 2))
def nnPE : PE := .m (.k 4) (.m (.v 9) (.v 9))
theorem ort_00 (ρ : Nat → TRing) (H : ∀ k, evP ρ (rl k) = rZero) : evP ρ (oPE 0 0) = evP ρ (nnPE) := poly_r ρ H _ _ [([([2,6],2),([2,6,8,8],-2),([3,7],2)],0),([([0,4,8,8],-2),([9],2)],1),([([0,6],-1),([0,6,8,8],-2),([1,7],1),([2,4],-2)],2),([([0,6],-2),([2,4],-1),([2,4,8,8],-2),([3,5],1)],3),([([0,4],4),([0,4,8,8],4),([8,8,9],-2)],4),([([0,5],2),([0,5,8,8],2)],6),([([1,4],2),([1,4,8,8],2)],7),([([0,0,4,4],-4),([0,0,5,5],-2),([0,0,6,6],2),([0,0,7,7],1),([0,4,9],4),([1,1,4,4],-2),([1,1,6,6],1),([2,2,4,4],2),([2,2,5,5],1),([3,3,4,4],1),([9,9],-2)],8)] (by decide +kernel)
theorem ort_01 (ρ : Nat → TRing) (H : ∀ k, evP ρ (rl k) = rZero) : evP ρ (oPE 0 1) = evP ρ (.k 0) := poly_r ρ H _ _ [([([0,6,8],-1),([0,6,8,8,8],-2),([1,7,8],1)],2),([([2,4,8],1),([2,4,8,8,8],2),([3,5,8],-1)],3),([([0,0,6,6,8],2),([0,0,7,7,8],1),([1,1,6,6,8],1),([2,2,4,4,8],-2),([2,2,5,5,8],-1),([3,3,4,4,8],-1)],8)] (by decide +kernel)
theorem ort_02 (ρ : Nat → TRing) (H : ∀ k, evP ρ (rl k) = rZero) : evP ρ (oPE 0 2) = evP ρ (.k 0) := poly_r ρ H _ _ [([([0,6,8,8],-1),([1,7],1),([2,4,8,8],-1),([3,5],1)],0),([([0,6,8,8],1),([1,7],-1),([2,4,8,8],1),([3,5],-1)],1),([([0,4],-1),([0,4,8,8],-1),([2,6],1),([2,6,8,8],1)],2),([([0,4],-1),([0,4,8,8],-1),([2,6],1),([2,6,8,8],1)],3),([([0,6],-2),([0,6,8,8],-2),([2,4],-2),([2,4,8,8],-2)],4),([([0,7],-1),([0,7,8,8],-1),([2,5],-1),([2,5,8,8],-1)],6),([([1,6],-1),([1,6,8,8],-1),([3,4],-1),([3,4,8,8],-1)],7),([([0,0,4,6],4),([0,0,5,7],2),([0,2,4,4],4),([0,2,5,5],2),([0,6,9],-2),([1,1,4,6],2),([1,3,4,4],2),([2,4,9],-2)],8)] (by decide +kernel)
theorem ort_10 (ρ : Nat → TRing) (H : ∀ k, evP ρ (rl k) = rZero) : evP ρ (oPE 1 0) = evP ρ (.k 0) := poly_r ρ H _ _ [([([0,6,8],-1),([0,6,8,8,8],-2),([1,7,8],1)],2),([([2,4,8],1),([2,4,8,8,8],2),([3,5,8],-1)],3),([([0,0,6,6,8],2),([0,0,7,7,8],1),([1,1,6,6,8],1),([2,2,4,4,8],-2),([2,2,5,5,8],-1),([3,3,4,4,8],-1)],8)] (by decide +kernel)
theorem ort_11 (ρ : Nat → TRing) (H : ∀ k, evP ρ (rl k) = rZero) : evP ρ (oPE 1 1) = evP ρ (nnPE) := poly_r ρ H _ _ [([([2,6,8,8],-2),([2,6,8,8,8,8],2),([3,7,8,8],-2)],0),([([0,4,8,8,8,8],2),([8,8,9],-2)],1),([([0,6,8,8],-1),([0,6,8,8,8,8],-2),([1,7,8,8],1),([2,4,8,8],2)],2),([([0,6,8,8],2),([2,4,8,8],-1),([2,4,8,8,8,8],-2),([3,5,8,8],1)],3),([([0,4,8,8],-4),([0,4,8,8,8,8],-4),([8,8,8,8,9],2)],4),([([0,5,8,8],-2),([0,5,8,8,8,8],-2)],6),([([1,4,8,8],-2),([1,4,8,8,8,8],-2)],7),([([0,0,4,4,8,8],4),([0,0,5,5,8,8],2),([0,0,6,6,8,8],2),([0,0,7,7,8,8],1),([0,4,8,8,9],-4),([1,1,4,4,8,8],2),([1,1,6,6,8,8],1),([2,2,4,4,8,8],2),([2,2,5,5,8,8],1),([3,3,4,4,8,8],1),([8,8,9,9],2),([9,9],-4)],8)] (by decide +kernel)
theorem ort_12 (ρ : Nat → TRing) (H : ∀ k, evP ρ (rl k) = rZero) : evP ρ (oPE 1 2) = evP ρ (.k 0) := poly_r ρ H _ _ [([([0,6,8,8,8],-1),([1,7,8],1),([2,4,8,8,8],1),([3,5,8],-1)],0),([([0,6,8,8,8],1),([1,7,8],-1),([2,4,8,8,8],-1),([3,5,8],1)],1),([([0,4,8],-1),([0,4,8,8,8],-1),([2,6,8],1),([2,6,8,8,8],1)],2),([([0,4,8],1),([0,4,8,8,8],1),([2,6,8],-1),([2,6,8,8,8],-1)],3),([([0,6,8],-2),([0,6,8,8,8],-2),([2,4,8],2),([2,4,8,8,8],2)],4),([([0,7,8],-1),([0,7,8,8,8],-1),([2,5,8],1),([2,5,8,8,8],1)],6),([([1,6,8],-1),([1,6,8,8,8],-1),([3,4,8],1),([3,4,8,8,8],1)],7),([([0,0,4,6,8],4),([0,0,5,7,8],2),([0,2,4,4,8],-4),([0,2,5,5,8],-2),([0,6,8,9],-2),([1,1,4,6,8],2),([1,3,4,4,8],-2),([2,4,8,9],2)],8)] (by decide +kernel)
theorem ort_20 (ρ : Nat → TRing) (H : ∀ k, evP ρ (rl k) = rZero) : evP ρ (oPE 2 0) = evP ρ (.k 0) := poly_r ρ H _ _ [([([0,6,8,8],-1),([1,7],1),([2,4,8,8],-1),([3,5],1)],0),([([0,6,8,8],1),([1,7],-1),([2,4,8,8],1),([3,5],-1)],1),([([0,4],-1),([0,4,8,8],-1),([2,6],1),([2,6,8,8],1)],2),([([0,4],-1),([0,4,8,8],-1),([2,6],1),([2,6,8,8],1)],3),([([0,6],-2),([0,6,8,8],-2),([2,4],-2),([2,4,8,8],-2)],4),([([0,7],-1),([0,7,8,8],-1),([2,5],-1),([2,5,8,8],-1)],6),([([1,6],-1),([1,6,8,8],-1),([3,4],-1),([3,4,8,8],-1)],7),([([0,0,4,6],4),([0,0,5,7],2),([0,2,4,4],4),([0,2,5,5],2),([0,6,9],-2),([1,1,4,6],2),([1,3,4,4],2),([2,4,9],-2)],8)] (by decide +kernel)
theorem ort_21 (ρ : Nat → TRing) (H : ∀ k, evP ρ (rl k) = rZero) : evP ρ (oPE 2 1) = evP ρ (.k 0) := poly_r ρ H _ _ [([([0,6,8,8,8],-1),([1,7,8],1),([2,4,8,8,8],1),([3,5,8],-1)],0),([([0,6,8,8,8],1),([1,7,8],-1),([2,4,8,8,8],-1),([3,5,8],1)],1),([([0,4,8],-1),([0,4,8,8,8],-1),([2,6,8],1),([2,6,8,8,8],1)],2),([([0,4,8],1),([0,4,8,8,8],1),([2,6,8],-1),([2,6,8,8,8],-1)],3),([([0,6,8],-2),([0,6,8,8,8],-2),([2,4,8],2),([2,4,8,8,8],2)],4),([([0,7,8],-1),([0,7,8,8,8],-1),([2,5,8],1),([2,5,8,8,8],1)],6),([([1,6,8],-1),([1,6,8,8,8],-1),([3,4,8],1),([3,4,8,8,8],1)],7),([([0,0,4,6,8],4),([0,0,5,7,8],2),([0,2,4,4,8],-4),([0,2,5,5,8],-2),([0,6,8,9],-2),([1,1,4,6,8],2),([1,3,4,4,8],-2),([2,4,8,9],2)],8)] (by decide +kernel)
theorem ort_22 (ρ : Nat → TRing) (H : ∀ k, evP ρ (rl k) = rZero) : evP ρ (oPE 2 2) = evP ρ (nnPE) := poly_r ρ H _ _ [([([0,4],-1),([0,4,8,8],-2),([1,5],1),([2,6],2),([3,7],-2),([9],1)],0),([([0,4],4),([2,6],-1),([2,6,8,8],-2),([3,7],1),([9],-1)],1),([([2,4],-2),([2,4,8,8],2)],2),([([0,6],-2),([0,6,8,8],2)],3),([([0,4],-6),([0,4,8,8],-6),([2,6],2),([2,6,8,8],2),([9],4)],4),([([0,5],-3),([0,5,8,8],-3),([2,7],1),([2,7,8,8],1)],6),([([1,4],-3),([1,4,8,8],-3),([3,6],1),([3,6,8,8],1)],7),([([0,0,4,4],8),([0,0,5,5],4),([0,4,9],-8),([1,1,4,4],4)],8)] (by decide +kernel)
/-- Minors. -/
def cPE (x y : Nat) : PE := .a (.m (tPE (mV 0) (mW 0) 1 x) (tPE (mV 0) (mW 0) 2 y)) (.m (.k (-1)) (.m (tPE (mV 0) (mW 0) 1 y) (tPE (mV 0) (mW 0) 2 x)))
theorem crs_0 (ρ : Nat → TRing) (H : ∀ k, evP ρ (rl k) = rZero) : evP ρ (cPE 1 2) = evP ρ (.m (.k (2)) (.m (.v 9) (tPE (mV 0) (mW 0) 0 0))) := poly_r ρ H _ _ [([([0,7],1),([1,6,8,8],-1),([2,5,8,8],-1),([3,4],1)],0),([([0,7,8,8],-1),([3,4,8,8],-1)],1),([([0,5],-1),([1,4,8,8],1),([2,7,8,8],1)],2),([([0,5,8,8],1),([1,4],-1),([3,6,8,8],1)],3),([([1,6,8,8],-1),([2,5,8,8],-1)],4),([([2,4,8,8],1)],6),([([0,6,8,8],1)],7),([([0,0,4,7],-1),([0,0,5,6],1),([0,3,4,4],-1),([0,7,9],-1),([1,2,4,4],1),([1,6,9],-2),([2,5,9],-2),([3,4,9],-1)],8)] (by decide +kernel)
theorem crs_1 (ρ : Nat → TRing) (H : ∀ k, evP ρ (rl k) = rZero) : evP ρ (cPE 0 2) = evP ρ (.m (.k (-2)) (.m (.v 9) (tPE (mV 0) (mW 0) 0 1))) := poly_r ρ H _ _ [([([0,7,8],1),([1,6,8],-1),([2,5,8],1),([3,4,8],-1)],0),([([0,7,8],1),([3,4,8],-1)],1),([([0,5,8],-1),([1,4,8],1),([2,7,8],-1)],2),([([0,5,8],-1),([1,4,8],1),([3,6,8],1)],3),([([1,6,8],-1),([2,5,8],1)],4),([([2,4,8],-1)],6),([([0,6,8],1)],7)] (by decide +kernel)
theorem crs_2 (ρ : Nat → TRing) (H : ∀ k, evP ρ (rl k) = rZero) : evP ρ (cPE 0 1) = evP ρ (.m (.k (2)) (.m (.v 9) (tPE (mV 0) (mW 0) 0 2))) := poly_r ρ H _ _ [([([0,6,8,8],-2),([2,4,8,8],-2)],0),([([0,6,8,8],-2),([2,4,8,8],-2)],1),([([0,4,8,8],2),([2,6,8,8],2),([9],2)],2),([([0,4,8,8],2),([2,6,8,8],2),([9],2)],3),([([0,6,9],-4),([2,4,9],-4)],8)] (by decide +kernel)
/-- Products. -/
def qPE (i j : Nat) : PE := .a (.a (.a (.k 0) (.m (tPE (mV 0) (mW 0) i 0) (tPE (mV 10) (mW 10) 0 j))) (.m (tPE (mV 0) (mW 0) i 1) (tPE (mV 10) (mW 10) 1 j))) (.m (tPE (mV 0) (mW 0) i 2) (tPE (mV 10) (mW 10) 2 j))
theorem mlt_00 (ρ : Nat → TRing) (H : ∀ k, evP ρ (rl k) = rZero) : evP ρ (.m (.k 2) (tPE (mmPE (mV 0) (mV 10)) (mmPE (mW 10) (mW 0)) 0 0)) = evP ρ (qPE 0 0) := poly_r ρ H _ _ [([([10,15],1),([11,14],1),([12,17],1),([13,16],1)],2),([([10,15],1),([11,14],1),([12,17],1),([13,16],1)],3),([([0,7,10,17],1),([0,7,11,16],1),([0,7,12,15],-1),([0,7,13,14],-1),([1,6,10,17],-1),([1,6,11,16],-1),([1,6,12,15],1),([1,6,13,14],1),([2,5,10,17],1),([2,5,11,16],1),([2,5,12,15],-1),([2,5,13,14],-1),([3,4,10,17],-1),([3,4,11,16],-1),([3,4,12,15],1),([3,4,13,14],1)],8)] (by decide +kernel)
theorem mlt_01 (ρ : Nat → TRing) (H : ∀ k, evP ρ (rl k) = rZero) : evP ρ (.m (.k 2) (tPE (mmPE (mV 0) (mV 10)) (mmPE (mW 10) (mW 0)) 0 1)) = evP ρ (qPE 0 1) := poly_r ρ H _ _ [([([8,10,15],-1),([8,11,14],1),([8,12,17],-1),([8,13,16],1)],2),([([8,10,15],-1),([8,11,14],1),([8,12,17],-1),([8,13,16],1)],3),([([0,7,8,10,17],-1),([0,7,8,11,16],1),([0,7,8,12,15],1),([0,7,8,13,14],-1),([1,6,8,10,17],1),([1,6,8,11,16],-1),([1,6,8,12,15],-1),([1,6,8,13,14],1),([2,5,8,10,17],-1),([2,5,8,11,16],1),([2,5,8,12,15],1),([2,5,8,13,14],-1),([3,4,8,10,17],1),([3,4,8,11,16],-1),([3,4,8,12,15],-1),([3,4,8,13,14],1)],8)] (by decide +kernel)
theorem mlt_02 (ρ : Nat → TRing) (H : ∀ k, evP ρ (rl k) = rZero) : evP ρ (.m (.k 2) (tPE (mmPE (mV 0) (mV 10)) (mmPE (mW 10) (mW 0)) 0 2)) = evP ρ (qPE 0 2) := poly_r ρ H _ _ [([([10,14],1),([11,15],-1),([12,16],1),([13,17],-1)],2),([([10,14],1),([11,15],-1),([12,16],1),([13,17],-1)],3),([([0,7,10,16],1),([0,7,11,17],-1),([0,7,12,14],-1),([0,7,13,15],1),([1,6,10,16],-1),([1,6,11,17],1),([1,6,12,14],1),([1,6,13,15],-1),([2,5,10,16],1),([2,5,11,17],-1),([2,5,12,14],-1),([2,5,13,15],1),([3,4,10,16],-1),([3,4,11,17],1),([3,4,12,14],1),([3,4,13,15],-1)],8)] (by decide +kernel)
theorem mlt_10 (ρ : Nat → TRing) (H : ∀ k, evP ρ (rl k) = rZero) : evP ρ (.m (.k 2) (tPE (mmPE (mV 0) (mV 10)) (mmPE (mW 10) (mW 0)) 1 0)) = evP ρ (qPE 1 0) := poly_r ρ H _ _ [([([8,10,15],1),([8,11,14],1),([8,12,17],1),([8,13,16],1)],2),([([8,10,15],-1),([8,11,14],-1),([8,12,17],-1),([8,13,16],-1)],3),([([0,7,8,10,17],1),([0,7,8,11,16],1),([0,7,8,12,15],-1),([0,7,8,13,14],-1),([1,6,8,10,17],-1),([1,6,8,11,16],-1),([1,6,8,12,15],1),([1,6,8,13,14],1),([2,5,8,10,17],-1),([2,5,8,11,16],-1),([2,5,8,12,15],1),([2,5,8,13,14],1),([3,4,8,10,17],1),([3,4,8,11,16],1),([3,4,8,12,15],-1),([3,4,8,13,14],-1)],8)] (by decide +kernel)
theorem mlt_11 (ρ : Nat → TRing) (H : ∀ k, evP ρ (rl k) = rZero) : evP ρ (.m (.k 2) (tPE (mmPE (mV 0) (mV 10)) (mmPE (mW 10) (mW 0)) 1 1)) = evP ρ (qPE 1 1) := poly_r ρ H _ _ [([([8,8,10,15],-1),([8,8,11,14],1),([8,8,12,17],-1),([8,8,13,16],1)],2),([([8,8,10,15],1),([8,8,11,14],-1),([8,8,12,17],1),([8,8,13,16],-1)],3),([([0,7,8,8,10,17],-1),([0,7,8,8,11,16],1),([0,7,8,8,12,15],1),([0,7,8,8,13,14],-1),([1,6,8,8,10,17],1),([1,6,8,8,11,16],-1),([1,6,8,8,12,15],-1),([1,6,8,8,13,14],1),([2,5,8,8,10,17],1),([2,5,8,8,11,16],-1),([2,5,8,8,12,15],-1),([2,5,8,8,13,14],1),([3,4,8,8,10,17],-1),([3,4,8,8,11,16],1),([3,4,8,8,12,15],1),([3,4,8,8,13,14],-1)],8)] (by decide +kernel)
theorem mlt_12 (ρ : Nat → TRing) (H : ∀ k, evP ρ (rl k) = rZero) : evP ρ (.m (.k 2) (tPE (mmPE (mV 0) (mV 10)) (mmPE (mW 10) (mW 0)) 1 2)) = evP ρ (qPE 1 2) := poly_r ρ H _ _ [([([8,10,14],1),([8,11,15],-1),([8,12,16],1),([8,13,17],-1)],2),([([8,10,14],-1),([8,11,15],1),([8,12,16],-1),([8,13,17],1)],3),([([0,7,8,10,16],1),([0,7,8,11,17],-1),([0,7,8,12,14],-1),([0,7,8,13,15],1),([1,6,8,10,16],-1),([1,6,8,11,17],1),([1,6,8,12,14],1),([1,6,8,13,15],-1),([2,5,8,10,16],-1),([2,5,8,11,17],1),([2,5,8,12,14],1),([2,5,8,13,15],-1),([3,4,8,10,16],1),([3,4,8,11,17],-1),([3,4,8,12,14],-1),([3,4,8,13,15],1)],8)] (by decide +kernel)
theorem mlt_20 (ρ : Nat → TRing) (H : ∀ k, evP ρ (rl k) = rZero) : evP ρ (.m (.k 2) (tPE (mmPE (mV 0) (mV 10)) (mmPE (mW 10) (mW 0)) 2 0)) = evP ρ (qPE 2 0) := poly_r ρ H _ _ [([([10,15],1),([11,14],1),([12,17],1),([13,16],1)],0),([([10,15],-1),([11,14],-1),([12,17],-1),([13,16],-1)],1),([([8,8,10,17],-1),([8,8,11,16],-1),([8,8,12,15],1),([8,8,13,14],1),([10,17],-1),([11,16],-1),([12,15],1),([13,14],1)],6),([([8,8,10,17],1),([8,8,11,16],1),([8,8,12,15],-1),([8,8,13,14],-1),([10,17],1),([11,16],1),([12,15],-1),([13,14],-1)],7),([([0,5,10,17],2),([0,5,11,16],2),([0,5,12,15],-2),([0,5,13,14],-2),([1,4,10,17],-2),([1,4,11,16],-2),([1,4,12,15],2),([1,4,13,14],2)],8)] (by decide +kernel)
theorem mlt_21 (ρ : Nat → TRing) (H : ∀ k, evP ρ (rl k) = rZero) : evP ρ (.m (.k 2) (tPE (mmPE (mV 0) (mV 10)) (mmPE (mW 10) (mW 0)) 2 1)) = evP ρ (qPE 2 1) := poly_r ρ H _ _ [([([8,10,15],-1),([8,11,14],1),([8,12,17],-1),([8,13,16],1)],0),([([8,10,15],1),([8,11,14],-1),([8,12,17],1),([8,13,16],-1)],1),([([8,8,8,10,17],1),([8,8,8,11,16],-1),([8,8,8,12,15],-1),([8,8,8,13,14],1),([8,10,17],1),([8,11,16],-1),([8,12,15],-1),([8,13,14],1)],6),([([8,8,8,10,17],-1),([8,8,8,11,16],1),([8,8,8,12,15],1),([8,8,8,13,14],-1),([8,10,17],-1),([8,11,16],1),([8,12,15],1),([8,13,14],-1)],7),([([0,5,8,10,17],-2),([0,5,8,11,16],2),([0,5,8,12,15],2),([0,5,8,13,14],-2),([1,4,8,10,17],2),([1,4,8,11,16],-2),([1,4,8,12,15],-2),([1,4,8,13,14],2)],8)] (by decide +kernel)
theorem mlt_22 (ρ : Nat → TRing) (H : ∀ k, evP ρ (rl k) = rZero) : evP ρ (.m (.k 2) (tPE (mmPE (mV 0) (mV 10)) (mmPE (mW 10) (mW 0)) 2 2)) = evP ρ (qPE 2 2) := poly_r ρ H _ _ [([([10,14],1),([11,15],-1),([12,16],1),([13,17],-1)],0),([([10,14],-1),([11,15],1),([12,16],-1),([13,17],1)],1),([([8,8,10,16],-1),([8,8,11,17],1),([8,8,12,14],1),([8,8,13,15],-1),([10,16],-1),([11,17],1),([12,14],1),([13,15],-1)],6),([([8,8,10,16],1),([8,8,11,17],-1),([8,8,12,14],-1),([8,8,13,15],1),([10,16],1),([11,17],-1),([12,14],-1),([13,15],1)],7),([([0,5,10,16],2),([0,5,11,17],-2),([0,5,12,14],-2),([0,5,13,15],2),([1,4,10,16],-2),([1,4,11,17],2),([1,4,12,14],2),([1,4,13,15],-2)],8)] (by decide +kernel)
/-- Conjugates. -/
def cjPE : PE → PE
 | .v i => if i < 4 then .v (i + 4) else if i < 8 then .v (i - 4) else if i = 8 then .m (.k (-1)) (.v 8) else .v i
 | .k n => .k n
 | .a x y => .a (cjPE x) (cjPE y)
 | .m x y => .m (cjPE x) (cjPE y)
theorem rel_00 (ρ : Nat → TRing) : evP ρ (cjPE (tPE (mV 0) (mW 0) 0 0)) = evP ρ (tPE (mV 0) (mW 0) 0 0) := poly_eq0 ρ _ _ (by decide +kernel)
theorem rel_01 (ρ : Nat → TRing) : evP ρ (cjPE (tPE (mV 0) (mW 0) 0 1)) = evP ρ (tPE (mV 0) (mW 0) 0 1) := poly_eq0 ρ _ _ (by decide +kernel)
theorem rel_02 (ρ : Nat → TRing) : evP ρ (cjPE (tPE (mV 0) (mW 0) 0 2)) = evP ρ (tPE (mV 0) (mW 0) 0 2) := poly_eq0 ρ _ _ (by decide +kernel)
theorem rel_10 (ρ : Nat → TRing) : evP ρ (cjPE (tPE (mV 0) (mW 0) 1 0)) = evP ρ (tPE (mV 0) (mW 0) 1 0) := poly_eq0 ρ _ _ (by decide +kernel)
theorem rel_11 (ρ : Nat → TRing) : evP ρ (cjPE (tPE (mV 0) (mW 0) 1 1)) = evP ρ (tPE (mV 0) (mW 0) 1 1) := poly_eq0 ρ _ _ (by decide +kernel)
theorem rel_12 (ρ : Nat → TRing) : evP ρ (cjPE (tPE (mV 0) (mW 0) 1 2)) = evP ρ (tPE (mV 0) (mW 0) 1 2) := poly_eq0 ρ _ _ (by decide +kernel)
theorem rel_20 (ρ : Nat → TRing) : evP ρ (cjPE (tPE (mV 0) (mW 0) 2 0)) = evP ρ (tPE (mV 0) (mW 0) 2 0) := poly_eq0 ρ _ _ (by decide +kernel)
theorem rel_21 (ρ : Nat → TRing) : evP ρ (cjPE (tPE (mV 0) (mW 0) 2 1)) = evP ρ (tPE (mV 0) (mW 0) 2 1) := poly_eq0 ρ _ _ (by decide +kernel)
theorem rel_22 (ρ : Nat → TRing) : evP ρ (cjPE (tPE (mV 0) (mW 0) 2 2)) = evP ρ (tPE (mV 0) (mW 0) 2 2) := poly_eq0 ρ _ _ (by decide +kernel)

def rI : TRing := TRing.mk 0 0 1 0
def bE (f g : Nat → TRing) : Nat → TRing
 | 0 => f 0 | 1 => f 1 | 2 => f 2 | 3 => f 3
 | 4 => rConj (f 0) | 5 => rConj (f 1) | 6 => rConj (f 2) | 7 => rConj (f 3)
 | 8 => rI | 9 => rIt 120 rOne'
 | 10 => g 0 | 11 => g 1 | 12 => g 2 | 13 => g 3
 | 14 => rConj (g 0) | 15 => rConj (g 1) | 16 => rConj (g 2) | 17 => rConj (g 3)
 | _ => rZero
def cV (l : List TDyadic) (p : Nat) : TRing := vOf (l.getD p dZero)
theorem pau_v : ∀ (i : Fin 3) (p : Fin 4), cV (pauL i.val) p.val = rIt 60 (evP (bE (fun _ => rZero) (fun _ => rZero)) (pPE i.val p.val)) := by decide +kernel
theorem pPE_ev (ρ : Nat → TRing) (h8 : ρ 8 = rI) : ∀ (i p : Nat), evP ρ (pPE i p) = evP (bE (fun _ => rZero) (fun _ => rZero)) (pPE i p) := fun i p => by
 unfold pPE
 split
 ·rfl
 ·rfl
 ·show eMul (rK (-1)) (ρ 8) = eMul (rK (-1)) rI
  rw [h8]
 ·exact h8
 ·rfl
 ·rfl
 ·rfl
theorem it_comm (a b : Nat) (x : TRing) : rIt a (rIt b x) = rIt b (rIt a x) := by rw [← rIt_add, ← rIt_add, Nat.add_comm]
theorem mul_its (a b : Nat) (x y : TRing) : eMul (rIt a x) (rIt b y) = rIt (a + b) (eMul x y) := by rw [it_mul, it_mul', ← rIt_add]
theorem mm_pe {a b l : List TDyadic} {ρ : Nat → TRing} {A B : Nat → PE} {s t u v : Nat} (ha : okD a) (hb : okD b) (h : mmO a b 2 2 2 = some l) (hA : ∀ p, p < 4 → rIt s (cV a p) = rIt u (evP ρ (A p))) (hB : ∀ p, p < 4 → rIt t (cV b p) = rIt v (evP ρ (B p))) : ∀ p, p < 4 → rIt (s + t) (rIt 60 (cV l p)) = rIt (u + v) (evP ρ (mmPE A B p)) := fun p hp => by
 obtain ⟨_, _, m3⟩ := mm_val ha hb h
 have h1 := m3 (p / 2) (p % 2) (by omega) (by omega)
 have e0 : vM l 2 (p / 2) (p % 2) = cV l p := by unfold vM cV; rw [show p / 2 * 2 + p % 2 = p by omega]
 rw [e0] at h1
 have e1 : eSum 2 (fun k => eMul (vM a 2 (p / 2) k) (vM b 2 k (p % 2))) = rPlus (rPlus rZero (eMul (cV a (p / 2 * 2)) (cV b (p % 2)))) (eMul (cV a (p / 2 * 2 + 1)) (cV b (2 + p % 2))) := by
  show rPlus (rPlus rZero (eMul (vM a 2 (p / 2) 0) (vM b 2 0 (p % 2)))) (eMul (vM a 2 (p / 2) 1) (vM b 2 1 (p % 2))) = _
  unfold vM cV
  rw [show 0 * 2 + p % 2 = p % 2 by omega, show 1 * 2 + p % 2 = 2 + p % 2 by omega, Nat.add_zero]
 have key : ∀ x y, x < 4 → y < 4 → rIt (s + t) (eMul (cV a x) (cV b y)) = rIt (u + v) (eMul (evP ρ (A x)) (evP ρ (B y))) := fun x y hx hy => by
  rw [← mul_its s t, hA x hx, hB y hy, mul_its]
 rw [h1, e1, rIt_plus, rIt_plus, it_z, key _ _ (by omega) (by omega), key _ _ (by omega) (by omega)]
 show _ = rIt (u + v) (rPlus (rPlus rZero (eMul (evP ρ (A (p / 2 * 2))) (evP ρ (B (p % 2))))) (eMul (evP ρ (A (p / 2 * 2 + 1))) (evP ρ (B (2 + p % 2)))))
 rw [rIt_plus, rIt_plus, it_z]
theorem half_v (x : TRing) : eMul x (vOf dHalf) = rIt 58 x := by
 show eMul x (rIt 58 rOne') = _
 rw [it_mul', eMul_comm, one_mul']
theorem bl_val {l l' : List TDyadic} {ρ : Nat → TRing} (h8 : ρ 8 = rI) {A A1 : Nat → PE} {s : Nat} (ol : okD l) (ol' : okD l') (hA : ∀ p, p < 4 → rIt s (cV l p) = evP ρ (A p)) (hA1 : ∀ p, p < 4 → rIt s (cV l' p) = evP ρ (A1 p)) {i j : Nat} (hi : i < 3) (hj : j < 3) {z : TDyadic} (h : blO l l' i j = some z) : rIt (s + s + 62) (vOf z) = evP ρ (tPE A A1 i j) ∧ dOk z = true := by
 unfold blO at h
 obtain ⟨x1, h1, h⟩ := Option.bind_eq_some_iff.1 h
 obtain ⟨x2, h2, h⟩ := Option.bind_eq_some_iff.1 h
 obtain ⟨x3, h3, h⟩ := Option.bind_eq_some_iff.1 h
 obtain ⟨t, h4, h5⟩ := Option.bind_eq_some_iff.1 h
 obtain ⟨_, _, _, _, pi⟩ := pau hi
 obtain ⟨_, _, _, _, pj⟩ := pau hj
 obtain ⟨_, o1, _⟩ := mm_val pi ol h1
 obtain ⟨_, o2, _⟩ := mm_val o1 pj h2
 obtain ⟨_, o3, _⟩ := mm_val o2 ol' h3
 have hp : ∀ k, k < 3 → ∀ p, p < 4 → rIt 0 (cV (pauL k) p) = rIt 60 (evP ρ (pPE k p)) := fun k hk p hp => by
  rw [pPE_ev ρ h8]; exact pau_v ⟨k, hk⟩ ⟨p, hp⟩
 have v1 : ∀ p, p < 4 → rIt s (cV x1 p) = rIt 0 (evP ρ (mmPE (pPE i) A p)) := fun p hp4 => by
  have := mm_pe (s := 0) (t := s) (u := 60) (v := 0) pi ol h1 (hp i hi) hA p hp4
  rw [Nat.zero_add, it_comm] at this
  exact it_inj 60 this
 have v2 : ∀ p, p < 4 → rIt s (cV x2 p) = rIt 0 (evP ρ (mmPE (mmPE (pPE i) A) (pPE j) p)) := fun p hp4 => by
  have := mm_pe (s := s) (t := 0) (u := 0) (v := 60) o1 pj h2 v1 (hp j hj) p hp4
  rw [Nat.zero_add, Nat.add_zero, it_comm] at this
  exact it_inj 60 this
 have v3 : ∀ p, p < 4 → rIt (s + s) (rIt 60 (cV x3 p)) = evP ρ (mmPE (mmPE (mmPE (pPE i) A) (pPE j)) A1 p) := fun p hp4 => mm_pe (s := s) (t := s) (u := 0) (v := 0) o2 ol' h3 v2 hA1 p hp4
 have q0 := getD_ok o3 0
 have q3 := getD_ok o3 3
 have ot := da_ok q0 q3 h4
 refine ⟨?_, dm_ok ot dHalf_ok h5⟩
 have w5 := v_mul ot dHalf_ok h5
 rw [half_v] at w5
 have w5 : rIt 2 (vOf z) = vOf t := it_inj 58 w5
 rw [rIt_add (s + s) 62, rIt_add 60 2, w5, da_val q0 q3 h4, rIt_plus, rIt_plus]
 show rPlus (rIt (s + s) (rIt 60 (cV x3 0))) (rIt (s + s) (rIt 60 (cV x3 3))) = _
 rw [v3 0 (by decide), v3 3 (by decide)]
 rfl
/-- The rows are of length one and at right angles. -/
def RowU (f : Nat → TRing) : Prop := rPlus (eMul (f 0) (rConj (f 0))) (eMul (f 1) (rConj (f 1))) = rIt 120 rOne' ∧ rPlus (eMul (f 2) (rConj (f 2))) (eMul (f 3) (rConj (f 3))) = rIt 120 rOne' ∧
 rPlus (eMul (f 0) (rConj (f 2))) (eMul (f 1) (rConj (f 3))) = rZero ∧ rPlus (eMul (f 2) (rConj (f 0))) (eMul (f 3) (rConj (f 1))) = rZero
theorem less_zero {x y : TRing} (h : x = y) : rPlus x (eMul (rK (-1)) y) = rZero := by
 subst h
 obtain ⟨a, b, c, d⟩ := x
 simp only [rPlus, eMul, rK, rZero, TRing.mk.injEq]; omega
theorem rows_zero {f g : Nat → TRing} (h : RowU f) : ∀ k, evP (bE f g) (rlR k) = rZero
 | 0 => by
  show rPlus (eMul (f 0) (rConj (f 0))) (rPlus (eMul (f 1) (rConj (f 1))) (eMul (rK (-1)) (rIt 120 rOne'))) = _
  rw [← plus_assoc]; exact less_zero h.1
 | 1 => by
  show rPlus (eMul (f 2) (rConj (f 2))) (rPlus (eMul (f 3) (rConj (f 3))) (eMul (rK (-1)) (rIt 120 rOne'))) = _
  rw [← plus_assoc]; exact less_zero h.2.1
 | 2 => h.2.2.1
 | 3 => h.2.2.2
 | k + 4 => by
  have e : rlR (k + 4) = .k 0 := if_neg (by omega)
  rw [e]; rfl
theorem n_cancel {x : TRing} (h : eMul (rIt 120 rOne') x = rZero) : x = rZero := by
 rw [it_mul, one_mul'] at h
 exact it_inj 120 (h.trans (it_z 120).symm)
theorem rl0_zero {f g : Nat → TRing} (h : RowU f) : ∀ k, evP (bE f g) (rl0 k) = rZero
 | 0 => rows_zero h 0
 | 1 => rows_zero h 1
 | 2 => rows_zero h 2
 | 3 => rows_zero h 3
 | 4 => n_cancel (col_4 (bE f g) (rows_zero h))
 | 5 => n_cancel (col_5 (bE f g) (rows_zero h))
 | 6 => n_cancel (col_6 (bE f g) (rows_zero h))
 | 7 => n_cancel (col_7 (bE f g) (rows_zero h))
 | 8 => rfl
 | k + 9 => rfl
theorem sh_var (f g : Nat → TRing) : ∀ i, evP (bE f g) (shPE (.v i)) = bE g g i
 | 0 => rfl | 1 => rfl | 2 => rfl | 3 => rfl | 4 => rfl | 5 => rfl | 6 => rfl | 7 => rfl | 8 => rfl | 9 => rfl
 | 10 => rfl | 11 => rfl | 12 => rfl | 13 => rfl | 14 => rfl | 15 => rfl | 16 => rfl | 17 => rfl
 | k + 18 => by
  have e : shPE (.v (k + 18)) = .v (k + 18) := if_neg (by omega)
  rw [e]; rfl
theorem sh_ev (f g : Nat → TRing) : ∀ e, evP (bE f g) (shPE e) = evP (bE g g) e
 | .v i => sh_var f g i
 | .k _ => rfl
 | .a x y => by
  show rPlus (evP (bE f g) (shPE x)) (evP (bE f g) (shPE y)) = _
  rw [sh_ev f g x, sh_ev f g y]; rfl
 | .m x y => by
  show eMul (evP (bE f g) (shPE x)) (evP (bE f g) (shPE y)) = _
  rw [sh_ev f g x, sh_ev f g y]; rfl
theorem rl_zero {f g : Nat → TRing} (h : RowU f) (hg : RowU g) (k : Nat) : evP (bE f g) (rl k) = rZero := by
 unfold rl
 split
 ·exact rl0_zero h k
 ·split
  ·rw [sh_ev]; exact rl0_zero hg (k - 9)
  ·rfl
/-- The adjoint's cells. -/
theorem adj_cells {l l' : List TDyadic} (h : adO l 2 2 = some l') : cV l' 0 = rConj (cV l 0) ∧ cV l' 1 = rConj (cV l 2) ∧ cV l' 2 = rConj (cV l 1) ∧ cV l' 3 = rConj (cV l 3) :=
 ⟨adj_val h (i := 0) (j := 0) (by decide) (by decide), adj_val h (i := 0) (j := 1) (by decide) (by decide), adj_val h (i := 1) (j := 0) (by decide) (by decide), adj_val h (i := 1) (j := 1) (by decide) (by decide)⟩
theorem cells_m (l : List TDyadic) (g : Nat → TRing) : ∀ p, p < 4 → rIt 0 (cV l p) = evP (bE (cV l) g) (mV 0 p)
 | 0, _ => rfl | 1, _ => rfl | 2, _ => rfl | 3, _ => rfl
 | k + 4, h => absurd h (by omega)
theorem cells_w {l l' : List TDyadic} (h : adO l 2 2 = some l') (g : Nat → TRing) : ∀ p, p < 4 → rIt 0 (cV l' p) = evP (bE (cV l) g) (mW 0 p)
 | 0, _ => (adj_cells h).1 | 1, _ => (adj_cells h).2.1 | 2, _ => (adj_cells h).2.2.1 | 3, _ => (adj_cells h).2.2.2
 | k + 4, h => absurd h (by omega)
theorem cells_m2 (l : List TDyadic) (f : Nat → TRing) : ∀ p, p < 4 → rIt 0 (cV l p) = evP (bE f (cV l)) (mV 10 p)
 | 0, _ => rfl | 1, _ => rfl | 2, _ => rfl | 3, _ => rfl
 | k + 4, h => absurd h (by omega)
theorem cells_w2 {l l' : List TDyadic} (h : adO l 2 2 = some l') (f : Nat → TRing) : ∀ p, p < 4 → rIt 0 (cV l' p) = evP (bE f (cV l)) (mW 10 p)
 | 0, _ => (adj_cells h).1 | 1, _ => (adj_cells h).2.1 | 2, _ => (adj_cells h).2.2.1 | 3, _ => (adj_cells h).2.2.2
 | k + 4, h => absurd h (by omega)
/-- Of a product with the adjoint that is the unit. -/
theorem row_u {l l' : List TDyadic} (ol : okD l) (ol' : okD l') (ha : adO l 2 2 = some l') (hu : mmO l l' 2 2 2 = some (unitL 2)) : RowU (cV l) := by
 obtain ⟨_, _, m3⟩ := mm_val ol ol' hu
 obtain ⟨c0, c1, c2, c3⟩ := adj_cells ha
 have key : ∀ i j, i < 2 → j < 2 → rPlus (eMul (vM l 2 i 0) (vM l' 2 0 j)) (eMul (vM l 2 i 1) (vM l' 2 1 j)) = rIt 60 (vM (unitL 2) 2 i j) := fun i j hi hj => by
  rw [m3 i j hi hj]
  show _ = rPlus (rPlus rZero (eMul (vM l 2 i 0) (vM l' 2 0 j))) (eMul (vM l 2 i 1) (vM l' 2 1 j))
  rw [zero_plus]
 have u00 : rIt 60 (vM (unitL 2) 2 0 0) = rIt 120 rOne' := by decide +kernel
 have u11 : rIt 60 (vM (unitL 2) 2 1 1) = rIt 120 rOne' := by decide +kernel
 have u01 : rIt 60 (vM (unitL 2) 2 0 1) = rZero := by decide +kernel
 have u10 : rIt 60 (vM (unitL 2) 2 1 0) = rZero := by decide +kernel
 have k00 := key 0 0 (by decide) (by decide)
 have k01 := key 0 1 (by decide) (by decide)
 have k10 := key 1 0 (by decide) (by decide)
 have k11 := key 1 1 (by decide) (by decide)
 rw [u00] at k00; rw [u01] at k01; rw [u10] at k10; rw [u11] at k11
 have k00 : rPlus (eMul (cV l 0) (cV l' 0)) (eMul (cV l 1) (cV l' 2)) = rIt 120 rOne' := k00
 have k01 : rPlus (eMul (cV l 0) (cV l' 1)) (eMul (cV l 1) (cV l' 3)) = rZero := k01
 have k10 : rPlus (eMul (cV l 2) (cV l' 0)) (eMul (cV l 3) (cV l' 2)) = rZero := k10
 have k11 : rPlus (eMul (cV l 2) (cV l' 1)) (eMul (cV l 3) (cV l' 3)) = rIt 120 rOne' := k11
 rw [c0, c2] at k00 k10
 rw [c1, c3] at k01 k11
 exact ⟨k00, k11, k01, k10⟩

theorem ort_all (ρ : Nat → TRing) (H : ∀ k, evP ρ (rl k) = rZero) : ∀ i k, i < 3 → k < 3 → evP ρ (oPE i k) = if i = k then evP ρ nnPE else rZero
 | 0, 0, _, _ => ort_00 ρ H | 0, 1, _, _ => ort_01 ρ H | 0, 2, _, _ => ort_02 ρ H
 | 1, 0, _, _ => ort_10 ρ H | 1, 1, _, _ => ort_11 ρ H | 1, 2, _, _ => ort_12 ρ H
 | 2, 0, _, _ => ort_20 ρ H | 2, 1, _, _ => ort_21 ρ H | 2, 2, _, _ => ort_22 ρ H
 | i + 3, _, h, _ => absurd h (by omega)
 | _, k + 3, _, h => absurd h (by omega)
theorem rel_all (ρ : Nat → TRing) : ∀ i j, i < 3 → j < 3 → evP ρ (cjPE (tPE (mV 0) (mW 0) i j)) = evP ρ (tPE (mV 0) (mW 0) i j)
 | 0, 0, _, _ => rel_00 ρ | 0, 1, _, _ => rel_01 ρ | 0, 2, _, _ => rel_02 ρ
 | 1, 0, _, _ => rel_10 ρ | 1, 1, _, _ => rel_11 ρ | 1, 2, _, _ => rel_12 ρ
 | 2, 0, _, _ => rel_20 ρ | 2, 1, _, _ => rel_21 ρ | 2, 2, _, _ => rel_22 ρ
 | i + 3, _, h, _ => absurd h (by omega)
 | _, k + 3, _, h => absurd h (by omega)
theorem mlt_all (ρ : Nat → TRing) (H : ∀ k, evP ρ (rl k) = rZero) : ∀ i j, i < 3 → j < 3 → evP ρ (.m (.k 2) (tPE (mmPE (mV 0) (mV 10)) (mmPE (mW 10) (mW 0)) i j)) = evP ρ (qPE i j)
 | 0, 0, _, _ => mlt_00 ρ H | 0, 1, _, _ => mlt_01 ρ H | 0, 2, _, _ => mlt_02 ρ H
 | 1, 0, _, _ => mlt_10 ρ H | 1, 1, _, _ => mlt_11 ρ H | 1, 2, _, _ => mlt_12 ρ H
 | 2, 0, _, _ => mlt_20 ρ H | 2, 1, _, _ => mlt_21 ρ H | 2, 2, _, _ => mlt_22 ρ H
 | i + 3, _, h, _ => absurd h (by omega)
 | _, k + 3, _, h => absurd h (by omega)
theorem conj_conj (x : TRing) : rConj (rConj x) = x := by
 obtain ⟨a, b, c, d⟩ := x
 simp [rConj]
theorem cj_var (f : Nat → TRing) : ∀ i, evP (bE f fun _ => rZero) (cjPE (.v i)) = rConj (bE f (fun _ => rZero) i)
 | 0 => rfl | 1 => rfl | 2 => rfl | 3 => rfl
 | 4 => (conj_conj _).symm | 5 => (conj_conj _).symm | 6 => (conj_conj _).symm | 7 => (conj_conj _).symm
 | 8 => by
  show eMul (rK (-1)) rI = rConj rI
  decide
 | 9 => by
  show rIt 120 rOne' = rConj (rIt 120 rOne')
  rw [← conj_it]; rfl
 | 10 => rfl | 11 => rfl | 12 => rfl | 13 => rfl | 14 => rfl | 15 => rfl | 16 => rfl | 17 => rfl
 | k + 18 => by
  have e : cjPE (.v (k + 18)) = .v (k + 18) := by
   show (if _ then _ else if _ then _ else if _ then _ else _) = _
   rw [if_neg (by omega), if_neg (by omega), if_neg (by omega)]
  rw [e]; rfl
theorem cj_ev (f : Nat → TRing) : ∀ e, evP (bE f fun _ => rZero) (cjPE e) = rConj (evP (bE f fun _ => rZero) e)
 | .v i => cj_var f i
 | .k n => by simp [cjPE, evP, rK, rConj]
 | .a x y => by
  show rPlus (evP _ (cjPE x)) (evP _ (cjPE y)) = rConj (rPlus _ _)
  rw [cj_ev f x, cj_ev f y, conj_plus]
 | .m x y => by
  show eMul (evP _ (cjPE x)) (evP _ (cjPE y)) = rConj (eMul _ _)
  rw [cj_ev f x, cj_ev f y, conj_mul]
theorem real_of_conj {z : TDyadic} (hz : dOk z = true) (h : rConj (vOf z) = vOf z) : realB z = true := by
 unfold vOf at h
 rw [← conj_it] at h
 have h := it_inj _ h
 have hr := (d_parts hz).1
 rw [rOk_iff] at hr
 unfold realB
 rw [hz]
 obtain ⟨⟨A, B, C, D⟩, e⟩ := z
 simp only [rConj, TRing.mk.injEq] at h hr ⊢
 rw [wr (by omega)]
 simp only [Bool.true_and, Bool.and_eq_true, beq_iff_eq]
 omega
theorem it_ng : ∀ (k : Nat) (x : TRing), rIt k (rNg x) = rNg (rIt k x)
 | 0, _ => rfl
 | k + 1, x => by
  show rIt k (rRoot (rNg x)) = rNg (rIt k (rRoot x))
  rw [neg_root, it_ng k]
theorem ng_v (x : TDyadic) : vOf (dNeg x) = rNg (vOf x) := it_ng _ _
theorem ng_mul (x : TRing) : eMul (rK (-1)) x = rNg x := by simp [eMul, rK, rNg]
theorem ng_ng (x : TRing) : rNg (rNg x) = x := by
 obtain ⟨a, b, c, d⟩ := x
 simp [rNg]
theorem mul_ng (x y : TRing) : eMul x (rNg y) = rNg (eMul x y) := by
 rw [← ng_mul, ← ng_mul, mul_swap]
theorem ng_bd {e : Nat} {K : Int} {x : TDyadic} (h : Bd e K x) : Bd e K (dNeg x) := by
 refine ⟨neg_dok h.1, h.2.1, ?_⟩
 rw [ng_v]
 have : nR (rNg (vOf x)) = nR (vOf x) := by unfold nR rNg; simp only; grind
 rw [this]; exact h.2.2
theorem two_it (x : TRing) : eMul (rK 2) x = rIt 2 x := by
 obtain ⟨a, b, c, d⟩ := x
 show _ = rRoot (rRoot _)
 simp only [eMul, rK, rRoot, TRing.mk.injEq]; omega
theorem two_ng (x : TRing) : eMul (rK (-2)) x = rNg (rIt 2 x) := by
 obtain ⟨a, b, c, d⟩ := x
 show _ = rNg (rRoot (rRoot _))
 simp only [eMul, rK, rRoot, rNg, TRing.mk.injEq]; omega
theorem nn_val : eMul (rK 4) (eMul (rIt 120 rOne') (rIt 120 rOne')) = rIt 124 (rIt 120 rOne') := by decide +kernel
theorem dot3_bd {X Y : Nat → TDyadic} (hX : ∀ k, Bd 22 1 (X k)) (hY : ∀ k, Bd 22 1 (Y k)) : ∃ z, forN (dotS X Y) 3 0 dZero = some z := by
 obtain ⟨p0, h0, b0⟩ := DM_bd (hX 0) (hY 0) (by decide) (by decide) (by decide) (by decide)
 obtain ⟨p1, h1, b1⟩ := DM_bd (hX 1) (hY 1) (by decide) (by decide) (by decide) (by decide)
 obtain ⟨p2, h2, b2⟩ := DM_bd (hX 2) (hY 2) (by decide) (by decide) (by decide) (by decide)
 obtain ⟨s0, g0, d0⟩ := DA_bd (bd_zero (22 + 22) (K := 0) (by decide)) b0 (by decide) (by decide) (by decide) (by decide)
 obtain ⟨s1, g1, d1⟩ := DA_bd d0 b1 (by decide) (by decide) (by decide) (by decide)
 obtain ⟨s2, g2, d2⟩ := DA_bd d1 b2 (by decide) (by decide) (by decide) (by decide)
 exact ⟨s2, by simp only [forN, dotS, h0, h1, h2, Option.bind_some, g0, g1, g2]⟩
theorem turn_get {x : List TDyadic} : ∀ k j, k < 3 → j < 3 → (turn9 x).getD (3 * k + j) dZero = x.getD (j * 3 + k) dZero
 | 0, 0, _, _ => rfl | 0, 1, _, _ => rfl | 0, 2, _, _ => rfl
 | 1, 0, _, _ => rfl | 1, 1, _, _ => rfl | 1, 2, _, _ => rfl
 | 2, 0, _, _ => rfl | 2, 1, _, _ => rfl | 2, 2, _, _ => rfl
 | i + 3, _, h, _ => absurd h (by omega)
 | _, k + 3, _, h => absurd h (by omega)
theorem turn_bl {x : List TDyadic} {e : Nat} {K : Int} (hK : 0 ≤ K) (h : BL e K x) : BL e K (turn9 x) := fun p => by
 match p with
 | 0 => exact h 0 | 1 => exact h 3 | 2 => exact h 6 | 3 => exact h 1 | 4 => exact h 4 | 5 => exact h 7 | 6 => exact h 2 | 7 => exact h 5 | 8 => exact h 8
 | p + 9 => exact bd_zero e hK
theorem min_val {p q r s t : TDyadic} (hp : Bd 22 1 p) (hq : Bd 22 1 q) (hr : Bd 22 1 r) (hs : Bd 22 1 s) (ht : dOk t = true) (h : rPlus (eMul (vOf p) (vOf s)) (rNg (eMul (vOf q) (vOf r))) = rIt 60 (vOf t)) : minO p q r s = some t := by
 obtain ⟨x, h0, b0⟩ := DM_bd hp hs (by decide) (by decide) (by decide) (by decide)
 obtain ⟨y, h1, b1⟩ := DM_bd hq hr (by decide) (by decide) (by decide) (by decide)
 obtain ⟨z, g0, d0⟩ := DA_bd b0 (ng_bd b1) (by decide) (by decide) (by decide) (by decide)
 unfold minO
 rw [h0, Option.bind_some, h1, Option.bind_some, g0]
 congr 1
 refine v_inj d0.1 ht (it_inj 60 ?_)
 rw [← h, da_val b0.1 (neg_dok b1.1) g0, rIt_plus, ng_v, it_ng, v_mul hp.1 hs.1 h0, v_mul hq.1 hr.1 h1]
section
variable {l l' x : List TDyadic} (ol : okD l) (ol' : okD l') (ha : adO l 2 2 = some l') (hU : RowU (cV l)) (hx : bgO l l' = some x)
include ol ol' ha hx
theorem bl_t (g : Nat → TRing) {i j : Nat} (hi : i < 3) (hj : j < 3) : rIt 62 (cV x (i * 3 + j)) = evP (bE (cV l) g) (tPE (mV 0) (mW 0) i j) ∧ dOk (x.getD (i * 3 + j) dZero) = true :=
 bl_val (ρ := bE (cV l) g) rfl (s := 0) ol ol' (cells_m l g) (cells_w ha g) hi hj ((grid_get hx).2 i j hi hj)
theorem bl_conj {i j : Nat} (hi : i < 3) (hj : j < 3) : rConj (cV x (i * 3 + j)) = cV x (i * 3 + j) := by
 refine it_inj 62 ?_
 rw [conj_it, (bl_t ol ol' ha hx (fun _ => rZero) hi hj).1, ← cj_ev, rel_all _ i j hi hj]
include hU
theorem bl_orth {i k : Nat} (hi : i < 3) (hk : k < 3) : rPlus (rPlus (rPlus rZero (eMul (cV x (i * 3 + 0)) (cV x (k * 3 + 0)))) (eMul (cV x (i * 3 + 1)) (cV x (k * 3 + 1)))) (eMul (cV x (i * 3 + 2)) (cV x (k * 3 + 2))) = if i = k then rIt 120 rOne' else rZero := by
 have c := fun {i j : Nat} (hi : i < 3) (hj : j < 3) => (bl_t ol ol' ha hx (cV l) hi hj).1
 have h := ort_all (bE (cV l) (cV l)) (rl_zero hU hU) i k hi hk
 refine it_inj 124 ?_
 rw [rIt_plus, rIt_plus, rIt_plus, it_z, ← mul_its 62 62, ← mul_its 62 62, ← mul_its 62 62, c hi (show 0 < 3 by decide), c hi (show 1 < 3 by decide), c hi (show 2 < 3 by decide), c hk (show 0 < 3 by decide), c hk (show 1 < 3 by decide), c hk (show 2 < 3 by decide)]
 refine Eq.trans h ?_
 by_cases e : i = k
 ·rw [if_pos e, if_pos e]; exact nn_val
 ·rw [if_neg e, if_neg e, it_z]
theorem bl_n {i : Nat} (hi : i < 3) : nR (cV x (i * 3 + 0)) ≤ 1 * 2 ^ 60 ∧ nR (cV x (i * 3 + 1)) ≤ 1 * 2 ^ 60 ∧ nR (cV x (i * 3 + 2)) ≤ 1 * 2 ^ 60 := by
 have h := bl_orth ol ol' ha hU hx hi hi
 rw [if_pos rfl] at h
 have sq : ∀ j, j < 3 → eMul (cV x (i * 3 + j)) (cV x (i * 3 + j)) = aSq (cV x (i * 3 + j)) (cV x (i * 3 + j)) := fun j hj => by
  unfold aSq; rw [bl_conj ol ol' ha hx hi hj]
 rw [sq 0 (by decide), sq 1 (by decide), sq 2 (by decide)] at h
 have h1 := congrArg TRing.A h
 rw [one_120] at h1
 have h2 : 0 + (aSq (cV x (i * 3 + 0)) (cV x (i * 3 + 0))).A + (aSq (cV x (i * 3 + 1)) (cV x (i * 3 + 1))).A + (aSq (cV x (i * 3 + 2)) (cV x (i * 3 + 2))).A = 2 ^ 60 := h1
 rw [aSq_A, aSq_A, aSq_A] at h2
 have n0 := nR_nn (cV x (i * 3 + 0))
 have n1 := nR_nn (cV x (i * 3 + 1))
 have n2 := nR_nn (cV x (i * 3 + 2))
 omega
theorem bl_BL (hb : BL 10 1 l) (hb' : BL 10 1 l') : BL 22 1 x := fun p => by
 have hl := (grid_get hx).1
 by_cases hp : p < 9
 ·have hi : p / 3 < 3 := by omega
  have hj : p % 3 < 3 := by omega
  have hpe : p / 3 * 3 + p % 3 = p := by omega
  have hz := (grid_get hx).2 (p / 3) (p % 3) hi hj
  rw [hpe] at hz
  have he : (x.getD p dZero).Exp ≤ 22 := by
   obtain ⟨x1, a1, b1, _⟩ := mm_bd (pau_bl hi) hb (by decide) (by decide) (by decide) (by decide)
   obtain ⟨x2, a2, b2, _⟩ := mm_bd b1 (pau_bl hj) (by decide) (by decide) (by decide) (by decide)
   obtain ⟨x3, a3, b3, _⟩ := mm_bd b2 hb' (by decide) (by decide) (by decide) (by decide)
   obtain ⟨t, a4, b4⟩ := DA_bd (b3 0) (b3 3) (by decide) (by decide) (by decide) (by decide)
   obtain ⟨z, a5, b5⟩ := DM_bd b4 half_bd (by decide) (by decide) (by decide) (by decide)
   unfold blO at hz
   rw [a1, Option.bind_some, a2, Option.bind_some, a3, Option.bind_some, a4, Option.bind_some, a5] at hz
   rw [← Option.some.inj hz]
   exact b5.2.1
  have hd := (bl_t ol ol' ha hx (cV l) hi hj).2
  rw [hpe] at hd
  refine ⟨hd, he, ?_⟩
  obtain ⟨n0, n1, n2⟩ := bl_n ol ol' ha hU hx hi
  have : p = p / 3 * 3 + 0 ∨ p = p / 3 * 3 + 1 ∨ p = p / 3 * 3 + 2 := by omega
  rcases this with h | h | h
  ·rw [← h] at n0; exact n0
  ·rw [← h] at n1; exact n1
  ·rw [← h] at n2; exact n2
 ·rw [List.getD_eq_getElem?_getD, List.getElem?_eq_none (by omega)]
  exact bd_zero 22 (by decide)
theorem bl_cell (hB : BL 22 1 x) {i j : Nat} (hi : i < 3) (hj : j < 3) : mbCell x (turn9 x) i j = some (if i = j then dOne else dZero) := by
 unfold mbCell
 obtain ⟨z, hz⟩ := dot3_bd (X := fun k => x.getD (3 * i + k) dZero) (Y := fun k => (turn9 x).getD (3 * k + j) dZero) (fun k => hB _) (fun k => turn_bl (by decide) hB _)
 rw [hz]
 obtain ⟨oz, vz⟩ := dot_val (fun k => (hB (3 * i + k)).1) (fun k => (turn_bl (by decide) hB (3 * k + j)).1) hz
 congr 1
 have ht : dOk (if i = j then dOne else dZero) = true := by split <;> decide
 refine v_inj oz ht (it_inj 60 ?_)
 rw [vz]
 show rPlus (rPlus (rPlus rZero (eMul (vOf (x.getD (3 * i + 0) dZero)) (vOf ((turn9 x).getD (3 * 0 + j) dZero)))) (eMul (vOf (x.getD (3 * i + 1) dZero)) (vOf ((turn9 x).getD (3 * 1 + j) dZero)))) (eMul (vOf (x.getD (3 * i + 2) dZero)) (vOf ((turn9 x).getD (3 * 2 + j) dZero))) = _
 rw [turn_get 0 j (by decide) hj, turn_get 1 j (by decide) hj, turn_get 2 j (by decide) hj, Nat.mul_comm 3 i]
 refine (bl_orth ol ol' ha hU hx hi hj).trans ?_
 by_cases e : i = j
 ·rw [if_pos e, if_pos e]; rfl
 ·rw [if_neg e, if_neg e, v_dz', it_z]
theorem bl_det (hB : BL 22 1 x) : detO x = some dOne := by
 have c := fun {i j : Nat} (hi : i < 3) (hj : j < 3) => (bl_t ol ol' ha hx (cV l) hi hj).1
 have H := rl_zero hU hU
 have m0 : minO (x.getD 4 dZero) (x.getD 5 dZero) (x.getD 7 dZero) (x.getD 8 dZero) = some (x.getD 0 dZero) := by
  refine min_val (hB _) (hB _) (hB _) (hB _) (hB 0).1 (it_inj 124 ?_)
  have h := crs_0 (bE (cV l) (cV l)) H
  have e4 := c (show 1 < 3 by decide) (show 1 < 3 by decide)
  have e8 := c (show 2 < 3 by decide) (show 2 < 3 by decide)
  have e5 := c (show 1 < 3 by decide) (show 2 < 3 by decide)
  have e7 := c (show 2 < 3 by decide) (show 1 < 3 by decide)
  have e0 := c (show 0 < 3 by decide) (show 0 < 3 by decide)
  show rIt 124 (rPlus (eMul (cV x 4) (cV x 8)) (rNg (eMul (cV x 5) (cV x 7)))) = rIt 124 (rIt 60 (cV x 0))
  rw [rIt_plus, it_ng, ← mul_its 62 62, ← mul_its 62 62, ← ng_mul]
  rw [show rIt 62 (cV x 4) = _ from e4, show rIt 62 (cV x 8) = _ from e8, show rIt 62 (cV x 5) = _ from e5, show rIt 62 (cV x 7) = _ from e7]
  refine Eq.trans h ?_
  show eMul (rK 2) (eMul (rIt 120 rOne') (evP (bE (cV l) (cV l)) (tPE (mV 0) (mW 0) 0 0))) = _
  rw [← e0, it_mul, one_mul', two_it, ← rIt_add, ← rIt_add, ← rIt_add]
 have m1 : minO (x.getD 3 dZero) (x.getD 5 dZero) (x.getD 6 dZero) (x.getD 8 dZero) = some (dNeg (x.getD 1 dZero)) := by
  refine min_val (hB _) (hB _) (hB _) (hB _) (neg_dok (hB 1).1) (it_inj 124 ?_)
  have h := crs_1 (bE (cV l) (cV l)) H
  have e4 := c (show 1 < 3 by decide) (show 0 < 3 by decide)
  have e8 := c (show 2 < 3 by decide) (show 2 < 3 by decide)
  have e5 := c (show 1 < 3 by decide) (show 2 < 3 by decide)
  have e7 := c (show 2 < 3 by decide) (show 0 < 3 by decide)
  have e0 := c (show 0 < 3 by decide) (show 1 < 3 by decide)
  rw [ng_v]
  show rIt 124 (rPlus (eMul (cV x 3) (cV x 8)) (rNg (eMul (cV x 5) (cV x 6)))) = rIt 124 (rIt 60 (rNg (cV x 1)))
  rw [rIt_plus, it_ng, ← mul_its 62 62, ← mul_its 62 62, ← ng_mul]
  rw [show rIt 62 (cV x 3) = _ from e4, show rIt 62 (cV x 8) = _ from e8, show rIt 62 (cV x 5) = _ from e5, show rIt 62 (cV x 6) = _ from e7]
  refine Eq.trans h ?_
  show eMul (rK (-2)) (eMul (rIt 120 rOne') (evP (bE (cV l) (cV l)) (tPE (mV 0) (mW 0) 0 1))) = _
  rw [← e0, it_mul, one_mul', two_ng, it_ng, it_ng, ← rIt_add, ← rIt_add, ← rIt_add]
 have m2 : minO (x.getD 3 dZero) (x.getD 4 dZero) (x.getD 6 dZero) (x.getD 7 dZero) = some (x.getD 2 dZero) := by
  refine min_val (hB _) (hB _) (hB _) (hB _) (hB 2).1 (it_inj 124 ?_)
  have h := crs_2 (bE (cV l) (cV l)) H
  have e4 := c (show 1 < 3 by decide) (show 0 < 3 by decide)
  have e8 := c (show 2 < 3 by decide) (show 1 < 3 by decide)
  have e5 := c (show 1 < 3 by decide) (show 1 < 3 by decide)
  have e7 := c (show 2 < 3 by decide) (show 0 < 3 by decide)
  have e0 := c (show 0 < 3 by decide) (show 2 < 3 by decide)
  show rIt 124 (rPlus (eMul (cV x 3) (cV x 7)) (rNg (eMul (cV x 4) (cV x 6)))) = rIt 124 (rIt 60 (cV x 2))
  rw [rIt_plus, it_ng, ← mul_its 62 62, ← mul_its 62 62, ← ng_mul]
  rw [show rIt 62 (cV x 3) = _ from e4, show rIt 62 (cV x 7) = _ from e8, show rIt 62 (cV x 4) = _ from e5, show rIt 62 (cV x 6) = _ from e7]
  refine Eq.trans h ?_
  show eMul (rK 2) (eMul (rIt 120 rOne') (evP (bE (cV l) (cV l)) (tPE (mV 0) (mW 0) 0 2))) = _
  rw [← e0, it_mul, one_mul', two_it, ← rIt_add, ← rIt_add, ← rIt_add]
 obtain ⟨y0, h0, b0⟩ := DM_bd (hB 0) (hB 0) (by decide) (by decide) (by decide) (by decide)
 obtain ⟨y1, h1, b1⟩ := DM_bd (hB 1) (ng_bd (hB 1)) (by decide) (by decide) (by decide) (by decide)
 obtain ⟨y2, h2, b2⟩ := DM_bd (hB 2) (hB 2) (by decide) (by decide) (by decide) (by decide)
 obtain ⟨s1, g1, d1⟩ := DA_bd b0 (ng_bd b1) (by decide) (by decide) (by decide) (by decide)
 obtain ⟨s2, g2, d2⟩ := DA_bd d1 b2 (by decide) (by decide) (by decide) (by decide)
 unfold detO
 rw [m0, Option.bind_some, h0, Option.bind_some, m1, Option.bind_some, h1, Option.bind_some, g1, Option.bind_some, m2, Option.bind_some, h2, Option.bind_some, g2]
 congr 1
 refine v_inj d2.1 (by decide) (it_inj 60 ?_)
 rw [da_val d1.1 b2.1 g2, da_val b0.1 (neg_dok b1.1) g1, ng_v, rIt_plus, rIt_plus, it_ng, v_mul (hB 0).1 (hB 0).1 h0, v_mul (hB 1).1 (neg_dok (hB 1).1) h1, v_mul (hB 2).1 (hB 2).1 h2, ng_v, mul_ng, ng_ng]
 have h := bl_orth ol ol' ha hU hx (show 0 < 3 by decide) (show 0 < 3 by decide)
 rw [if_pos rfl, zero_plus] at h
 exact h
theorem bl_valid (hB : BL 22 1 x) : bvO x = true := by
 have hl := (grid_get hx).1
 have c := fun {i j : Nat} (hi : i < 3) (hj : j < 3) => bl_cell ol ol' ha hU hx hB hi hj
 have hm : mbO x (turn9 x) = some unit9 := by
  have c00 := c (show 0 < 3 by decide) (show 0 < 3 by decide)
  have c01 := c (show 0 < 3 by decide) (show 1 < 3 by decide)
  have c02 := c (show 0 < 3 by decide) (show 2 < 3 by decide)
  have c10 := c (show 1 < 3 by decide) (show 0 < 3 by decide)
  have c11 := c (show 1 < 3 by decide) (show 1 < 3 by decide)
  have c12 := c (show 1 < 3 by decide) (show 2 < 3 by decide)
  have c20 := c (show 2 < 3 by decide) (show 0 < 3 by decide)
  have c21 := c (show 2 < 3 by decide) (show 1 < 3 by decide)
  have c22 := c (show 2 < 3 by decide) (show 2 < 3 by decide)
  simp only [mbO, mbRow, forN, c00, c01, c02, c10, c11, c12, c20, c21, c22, Option.bind_some]
  rfl
 unfold bvO
 rw [hm, bl_det ol ol' ha hU hx hB]
 have hr : x.all realB = true := by
  rw [List.all_eq_true]
  intro z hz
  obtain ⟨p, hp, rfl⟩ := List.mem_iff_getElem.1 hz
  have h := bl_conj ol ol' ha hx (show p / 3 < 3 by omega) (show p % 3 < 3 by omega)
  have hd := (bl_t ol ol' ha hx (cV l) (show p / 3 < 3 by omega) (show p % 3 < 3 by omega)).2
  rw [show p / 3 * 3 + p % 3 = p by omega] at h hd
  have e : x.getD p dZero = x[p] := by rw [List.getD_eq_getElem?_getD, List.getElem?_eq_getElem hp]; rfl
  unfold cV at h
  rw [e] at h hd
  exact real_of_conj hd h
 rw [hr]
 simp [hl]
end
theorem row_n {f : Nat → TRing} (h : RowU f) : nR (f 0) ≤ 1 * 2 ^ 60 ∧ nR (f 1) ≤ 1 * 2 ^ 60 ∧ nR (f 2) ≤ 1 * 2 ^ 60 ∧ nR (f 3) ≤ 1 * 2 ^ 60 := by
 have h1 := congrArg TRing.A h.1
 have h2 := congrArg TRing.A h.2.1
 rw [one_120] at h1 h2
 have h1 : (aSq (f 0) (f 0)).A + (aSq (f 1) (f 1)).A = 2 ^ 60 := h1
 have h2 : (aSq (f 2) (f 2)).A + (aSq (f 3) (f 3)).A = 2 ^ 60 := h2
 rw [aSq_A, aSq_A] at h1 h2
 have n0 := nR_nn (f 0)
 have n1 := nR_nn (f 1)
 have n2 := nR_nn (f 2)
 have n3 := nR_nn (f 3)
 omega
theorem it_two (x : TRing) : rIt 2 x = TRing.mk (2 * x.A) (2 * x.B) (2 * x.C) (2 * x.D) := by
 rw [← two_it]; simp [eMul, rK]
theorem par_mul (x y : Int) : (x * y) % 2 = (x % 2) * (y % 2) := by
 rcases Int.emod_two_eq x with h | h <;> rcases Int.emod_two_eq y with h' | h' <;> simp [Int.mul_emod, h, h']
theorem exp_row {x y : TDyadic} (hx : dOk x = true) (hy : dOk y = true) (h : rPlus (eMul (vOf x) (rConj (vOf x))) (eMul (vOf y) (rConj (vOf y))) = rIt 120 rOne') (hy10 : y.Exp ≤ 10) : x.Exp ≤ 10 := by
 obtain ⟨x1, x2, x3⟩ := d_parts hx
 obtain ⟨y1, y2, y3⟩ := d_parts hy
 by_cases hle : x.Exp ≤ 10
 ·exact hle
 exfalso
 unfold vOf at h
 rw [← conj_it, ← conj_it, mul_its, mul_its] at h
 generalize hk : (60 - x.Exp).toNat = k at h
 generalize hm : (60 - y.Exp).toNat = m at h
 obtain ⟨u, hu⟩ : ∃ u, m + m = (k + k) + (2 + u) := ⟨m + m - (k + k) - 2, by omega⟩
 obtain ⟨w, hw⟩ : ∃ w, 120 = (k + k) + (2 + w) := ⟨120 - (k + k) - 2, by omega⟩
 rw [hu, rIt_add (k + k), show rIt 120 rOne' = rIt (k + k) (rIt (2 + w) rOne') by rw [← rIt_add, ← hw], ← rIt_plus] at h
 have h := it_inj _ h
 rw [rIt_add 2 u, rIt_add 2 w, it_two, it_two] at h
 generalize rIt u _ = U at h
 generalize rIt w _ = W at h
 have hA := congrArg TRing.A h
 have hB := congrArg TRing.B h
 have hA : (x.Num.A * x.Num.A - x.Num.B * -x.Num.B - x.Num.C * -x.Num.C - x.Num.D * -x.Num.D) + 2 * U.A = 2 * W.A := hA
 have hB : (x.Num.A * -x.Num.D + x.Num.B * x.Num.A - x.Num.C * -x.Num.B - x.Num.D * -x.Num.C) + 2 * U.B = 2 * W.B := hB
 have hev : rEven x.Num = false := by
  unfold dOk at hx
  simp only [Bool.and_eq_true, Bool.or_eq_true, beq_iff_eq, Bool.not_eq_true'] at hx
  rcases hx.2 with h | h
  ·omega
  ·exact h
 rw [rOk_iff] at x1
 unfold rEven at hev
 rw [wr (by omega), wr (by omega)] at hev
 rw [tm2, tm2] at hev
 generalize x.Num.A = A at *
 generalize x.Num.B = B at *
 generalize x.Num.C = C at *
 generalize x.Num.D = D at *
 simp only [Int.mul_neg] at hA hB
 have pA := par_mul A A; have pB := par_mul B B; have pC := par_mul C C; have pD := par_mul D D
 have qAD := par_mul A D; have qBA := par_mul B A; have qCB := par_mul C B; have qDC := par_mul D C
 simp only [Bool.and_eq_false_iff, decide_eq_false_iff_not] at hev
 generalize A * A = AA at *
 generalize B * B = BB at *
 generalize C * C = CC at *
 generalize D * D = DD at *
 generalize A * D = AD at *
 generalize B * A = BA at *
 generalize C * B = CB at *
 generalize D * C = DC at *
 rcases Int.emod_two_eq A with a | a <;> rcases Int.emod_two_eq B with b | b <;> rcases Int.emod_two_eq C with c | c <;> rcases Int.emod_two_eq D with d | d <;> simp only [a, b, c, d] at pA pB pC pD qAD qBA qCB qDC <;> omega
theorem row_exp {l : List TDyadic} (ol : okD l) (hU : RowU (cV l)) (p : Nat) (h : ∀ q, q ≠ p → (l.getD q dZero).Exp ≤ 10) : ∀ q, q < 4 → (l.getD q dZero).Exp ≤ 10 := fun q hq => by
 by_cases e : q = p
 ·subst e
  have o := fun q => getD_ok ol q
  match q, hq with
  | 0, _ => exact exp_row (o 0) (o 1) hU.1 (h 1 (by decide))
  | 1, _ => exact exp_row (o 1) (o 0) (by rw [plus_comm]; exact hU.1) (h 0 (by decide))
  | 2, _ => exact exp_row (o 2) (o 3) hU.2.1 (h 3 (by decide))
  | 3, _ => exact exp_row (o 3) (o 2) (by rw [plus_comm]; exact hU.2.1) (h 2 (by decide))
 ·exact h q e
theorem row_BL {l : List TDyadic} (ol : okD l) (ll : l.length = 4) (hU : RowU (cV l)) {p : Nat} (h : ∀ q, q ≠ p → (l.getD q dZero).Exp ≤ 10) : BL 10 1 l := fun q => by
 by_cases hq : q < 4
 ·refine ⟨getD_ok ol q, row_exp ol hU p h q hq, ?_⟩
  obtain ⟨n0, n1, n2, n3⟩ := row_n hU
  match q, hq with
  | 0, _ => exact n0
  | 1, _ => exact n1
  | 2, _ => exact n2
  | 3, _ => exact n3
 ·rw [List.getD_eq_getElem?_getD, List.getElem?_eq_none (by omega)]
  exact bd_zero 10 (by decide)

theorem orR_go {α β : Type} {x : Option (α ⊕ β)} {s : α} {k : α → Option β} (h : x = some (.inl s)) : (x.bind <| orR k) = k s := by rw [h]; rfl
def OneOff (m : TMatrix) : Prop := m.Cells.length ≤ 1024 ∧ ∃ p, ∀ q, q ≠ p → (m.Cells.getD q dZero).Exp ≤ 10
theorem dyadic_e : Dr F_spec_l1Cur_dyadic (fun v => dOk v = true ∧ v.Exp ≤ 10) 10 := fun code a s k hb h0 h1 h2 => by
 unfold F_spec_l1Cur_dyadic
 obtain ⟨v1, a1, s1, e1, p1, q1, r1⟩ := ring_d code a s k hb h0 h1 (by omega)
 rw [e1]; simp only [Option.bind_some]
 obtain ⟨v2, a2, s2, e2, p2, q2, r2⟩ := pick_d 5 (by decide) code a1 s1 (k + 8) hb q1 r1 (by omega)
 simp only at e2
 rw [e2]; simp only [Option.bind_some]
 have hv2 := pick_lt p2 (by decide)
 obtain ⟨z, z1, z3, z2⟩ := low_both (e := v2) p1 ⟨by omega, by first | omega | (simp only; omega)⟩
 rw [z1]
 have := (low_val p1 (e := v2) ⟨by omega, by omega⟩ z3).2.1
 exact ⟨_, _, _, rfl, ⟨z2, by omega⟩, q2, by first | omega | (simp only; omega)⟩
theorem getD_small {l : List TDyadic} (h : ∀ z ∈ l, z.Exp ≤ 10) (q : Nat) : (l.getD q dZero).Exp ≤ 10 := by
 rw [List.getD_eq_getElem?_getD]
 cases hq : l[q]? with
 | none => show (0 : Int) ≤ 10; decide
 | some z => exact h z (List.mem_of_getElem? hq)
theorem off_all {R C : Int} {l : List TDyadic} (hl : l.length ≤ 1024) (h : ∀ z ∈ l, z.Exp ≤ 10) : OneOff (TMatrix.mk R C l) := ⟨hl, 0, fun q _ => getD_small h q⟩
theorem off_set {R C : Int} {l : List TDyadic} (hl : l.length ≤ 1024) (h : ∀ z ∈ l, z.Exp ≤ 10) (p : Nat) (y : TDyadic) : OneOff (TMatrix.mk R C (l.set p y)) := ⟨by simp only [List.length_set]; exact hl, p, fun q hq => by
 show ((l.set p y).getD q dZero).Exp ≤ 10
 rw [List.getD_eq_getElem?_getD, List.getElem?_set_ne (fun h => hq h.symm), ← List.getD_eq_getElem?_getD]
 exact getD_small h q⟩
theorem matrix_e (R C : Nat) (hR : R ≤ 32) (hC : C ≤ 32) : Dr (fun c => F_spec_l1Cur_matrix c (R : Int) (C : Int)) (fun m => ∃ l, m = TMatrix.mk R C l ∧ l.length = R * C ∧ ∀ z ∈ l, z.Exp ≤ 10) 10240 := fun code a s k hb h0 h1 h2 => by
 have hRC : R * C ≤ 32 * 32 := Nat.mul_le_mul hR hC
 have hw : (IntKind.i64.wrap ((R : Int) * (C : Int))).toNat = R * C := by
  have e : (R : Int) * (C : Int) = ((R * C : Nat) : Int) := by push_cast; rfl
  rw [e, wrap_i64 ⟨by omega, by omega⟩, Int.toNat_natCast]
 unfold F_spec_l1Cur_matrix
 simp only
 rw [hw, chk_t (by omega)]
 obtain ⟨⟨a2, s2, l⟩, e1, e2, e3, e4, e5⟩ := forN_inv (f := F_spec_l1Cur_matrix_l1 (Tl1Cur.mk code a s)) (fun i t => 0 ≤ t.1 ∧ t.1 ≤ ((k + 10 * i : Nat) : Int) ∧ t.2.2.length = i ∧ ∀ z ∈ t.2.2, z.Exp ≤ 10) (R * C) 0 (a, s, []) ⟨h0, by simp only; omega, rfl, fun z hz => (by cases hz)⟩ (fun i t _ hi ⟨t1, t2, t3, t4⟩ => by
  obtain ⟨a2, s2, l⟩ := t
  simp only at t1 t2 t3 t4
  unfold F_spec_l1Cur_matrix_l1
  simp only
  obtain ⟨v3, a3, s3, e3, p3, q3, r3⟩ := dyadic_e code a2 s2 (k + 10 * i) hb t1 t2 (by omega)
  rw [e3]; simp only [Option.bind_some]
  rw [chk_t (by omega)]
  refine ⟨_, rfl, q3, by simp only; omega, by simp [t3], fun z hz => ?_⟩
  rcases List.mem_append.1 hz with h | h
  ·exact t4 z h
  ·rw [List.mem_singleton.1 h]; exact p3.2)
 rw [e1]
 simp only at e2 e3 e4 e5
 exact ⟨_, _, _, rfl, ⟨l, rfl, by omega, e5⟩, e2, by first | omega | (simp only; omega)⟩
theorem unit_e (U : Nat) : ∀ z ∈ unitL U, z.Exp ≤ 10 := fun z hz => by
 unfold unitL at hz
 obtain ⟨p, _, rfl⟩ := List.mem_map.1 hz
 split <;> decide
theorem anyMatrix_e : Dr F_spec_l1Cur_anyMatrix OneOff 10300 := fun code a s k hb h0 h1 h2 => by
 unfold F_spec_l1Cur_anyMatrix
 obtain ⟨v1, a1, s1, e1, p1, q1, r1⟩ := among_d [1, 2, 2, 4] (by decide) code a s k hb h0 h1 (by omega)
 simp only at e1 ⊢
 rw [e1]; simp only [Option.bind_some]
 obtain ⟨v2, a2, s2, e2, p2, q2, r2⟩ := among_d [1, 2, 2, 4] (by decide) code a1 s1 (k + 2) hb q1 r1 (by omega)
 simp only at e2
 rw [e2]; simp only [Option.bind_some]
 obtain ⟨R, rfl, R1, R2, _⟩ := dim_among p1 (by simp)
 obtain ⟨C, rfl, C1, C2, _⟩ := dim_among p2 (by simp)
 obtain ⟨v3, a3, s3, e3, ⟨l, rfl, hl, ol⟩, q3, r3⟩ := matrix_e R C (by omega) (by omega) code a2 s2 (k + 2 + 2) hb q2 r2 (by omega)
 simp only at e3
 rw [e3]; simp only [Option.bind_some]
 have hRC : R * C ≤ 4 * 4 := Nat.mul_le_mul R2 C2
 have hRC1 : 1 * 1 ≤ R * C := Nat.mul_le_mul R1 C1
 obtain ⟨v4, a4, s4, e4, p4, q4, r4⟩ := pick_d 12 (by decide) code a3 s3 (k + 2 + 2 + 10240) hb q3 r3 (by omega)
 simp only at e4
 rw [e4]; simp only [Option.bind_some]
 cases v4 == 0 with
 | true =>
  simp only [cond_true]
  obtain ⟨v5, a5, s5, e5, p5, q5, r5⟩ := among_d [0, 3, 64, (-1), 1] (by decide) code a4 s4 (k + 2 + 2 + 10240 + 2) hb q4 r4 (by omega)
  simp only at e5
  rw [e5]
  exact ⟨_, _, _, rfl, off_all (by simp only; omega) ol, q5, by first | omega | (simp only; omega)⟩
 | false =>
  cases v4 == 1 with
  | true =>
   simp only [cond_true, cond_false]
   obtain ⟨v5, a5, s5, e5, p5, q5, r5⟩ := pick_d (l.length : Int) (by omega) code a4 s4 (k + 2 + 2 + 10240 + 2) hb q4 r4 (by omega)
   simp only at e5
   rw [e5]; simp only [Option.bind_some]
   obtain ⟨v6, a6, s6, e6, p6, q6, r6⟩ := anyDyadic_d code a5 s5 (k + 2 + 2 + 10240 + 2 + 2) hb q5 r5 (by omega)
   rw [e6]; simp only [Option.bind_some]
   obtain ⟨x, hx, _⟩ := getI_at (l := l) p5.1 (by omega)
   rw [hx]
   exact ⟨_, _, _, rfl, off_set (by omega) ol _ _, q6, by first | omega | (simp only; omega)⟩
  | false =>
   cases v4 == 2 with
   | true =>
    simp only [cond_true, cond_false]
    rw [chk_t (by omega)]
    exact ⟨_, _, _, rfl, off_all (by simp only [List.length_drop]; omega) (fun z hz => ol z (List.mem_of_mem_drop hz)), q4, by first | omega | (simp only; omega)⟩
   | false =>
    cases v4 == 3 with
    | true =>
     simp only [cond_true, cond_false]
     obtain ⟨v5, a5, s5, e5, p5, q5, r5⟩ := among_d [1, 2, 4] (by decide) code a4 s4 (k + 2 + 2 + 10240 + 2) hb q4 r4 (by omega)
     simp only at e5
     rw [e5]; simp only [Option.bind_some]
     obtain ⟨U, rfl, U1, U2, U3⟩ := dim_among p5 (by simp)
     rw [unit_spec U U3]
     have hUU : U * U ≤ 4 * 4 := Nat.mul_le_mul U2 U2
     exact ⟨_, _, _, rfl, off_all (by simp only [unit_len]; omega) (unit_e U), q5, by first | omega | (simp only; omega)⟩
    | false =>
     simp only [cond_false]
     exact ⟨_, _, _, rfl, off_all (by simp only; omega) ol, q4, by first | omega | (simp only; omega)⟩
theorem drawBl {code : List Int} (hb : BOk code) : ∃ m, F_spec_DrawBlochOf code = some m ∧ OneOff m := by
 unfold F_spec_DrawBlochOf F_spec_DrawIsOneQubit F_spec_l1Cur_anyOne
 obtain ⟨m1, a1, s1, e1, ⟨l, rfl, hB, hl⟩, q1, r1⟩ := oneQubit_d code 0 0 0 hb (by decide) (by decide) (by decide)
 rw [e1]; simp only [Option.bind_some]
 have hex : ∀ z ∈ l, z.Exp ≤ 10 := fun z hz => by
  obtain ⟨p, hp, rfl⟩ := List.mem_iff_getElem.1 hz
  have := (hB p).2.1
  rwa [List.getD_eq_getElem?_getD, List.getElem?_eq_getElem hp] at this
 obtain ⟨v2, a2, s2, e2, p2, q2, r2⟩ := one_d 10 (by decide) code a1 s1 (0 + 1000) hb q1 r1 (by decide)
 simp only at e2
 rw [e2]; simp only [Option.bind_some]
 cases v2 with
 | true =>
  simp only [cond_true]
  obtain ⟨v3, a3, s3, e3, p3, q3, r3⟩ := anyMatrix_e code a2 s2 (0 + 1000 + 2) hb q2 r2 (by decide)
  rw [e3]
  exact ⟨_, rfl, p3⟩
 | false =>
  simp only [cond_false]
  obtain ⟨v3, a3, s3, e3, p3, q3, r3⟩ := one_d 12 (by decide) code a2 s2 (0 + 1000 + 2) hb q2 r2 (by decide)
  simp only at e3
  rw [e3]; simp only [Option.bind_some]
  cases v3 with
  | true =>
   simp only [cond_true]
   obtain ⟨v4, a4, s4, e4, p4, q4, r4⟩ := pick_d 4 (by decide) code a3 s3 (0 + 1000 + 2 + 2) hb q3 r3 (by decide)
   simp only at e4
   rw [e4]; simp only [Option.bind_some]
   obtain ⟨v5, a5, s5, e5, p5, q5, r5⟩ := dyadic_d code a4 s4 (0 + 1000 + 2 + 2 + 2) hb q4 r4 (by decide)
   rw [e5]; simp only [Option.bind_some]
   obtain ⟨y, hy, _⟩ := getI_at (l := l) p4.1 (by omega)
   rw [hy]
   exact ⟨_, rfl, off_set (by omega) hex _ _⟩
  | false =>
   exact ⟨_, rfl, off_all (by simp only; omega) hex⟩
theorem uni_inv {N : Nat} {l l' : List TDyadic} (hm : mOk (TMatrix.mk N N l) = true) (ha : adO l N N = some l') (h : F_impl_IsUnitary (TMatrix.mk N N l) = some (true, true)) : mmO l l' N N N = some (unitL N) := by
 obtain ⟨d1, _, b1, _, ll, ol⟩ := m_parts2 hm
 obtain ⟨l'', a1, a2, a3⟩ := adj_some (R := N) (C := N) ol
 rw [ha] at a1; cases a1
 have hb : N * N ≤ 32 * 32 := Nat.mul_le_mul b1.2 b1.2
 unfold F_impl_IsUnitary at h
 rw [impl_mgood _ (by simp only; omega), hm] at h
 simp only [Option.bind_some, Bool.not_true, bne_self_eq_false, Bool.or_self, cond_false] at h
 rw [impl_adj hm, ha] at h
 simp only [mR, Option.bind_some] at h
 obtain ⟨i1, i2⟩ := im_mul hm (m_make d1 d1 a3 a2)
 rw [i1, unit_impl N (dim_mem d1)] at h
 cases hp : mmO l l' N N N with
 | none => rw [hp] at h; simp [mR, gb] at h
 | some x =>
  obtain ⟨v1, v2, v3⟩ := mm_val ol a2 hp
  rw [hp] at h
  simp only [mR, Option.bind_some, gb, cond_true, Bool.true_and] at h
  rw [impl_meq (by rw [v1]; omega)] at h
  simp only [Option.bind_some, Option.some.injEq, Prod.mk.injEq, and_true, decide_eq_true_eq] at h
  rw [h]
theorem bl_from {m : TMatrix} (hl : m.Cells.length ≤ 1048576) {b : TBloch} (h : F_impl_BlochOf m = some (b, true)) : ∃ l l' : List TDyadic, m = TMatrix.mk 2 2 l ∧ l.length = 4 ∧ okD l ∧ okD l' ∧ l'.length = 4 ∧ adO l 2 2 = some l' ∧ RowU (cV l) ∧ bgO l l' = some b.Cells := by
 obtain ⟨g, h1, h2, h3⟩ := one_both m (by omega)
 unfold F_impl_BlochOf at h
 rw [h2] at h
 cases g with
 | false => simp at h
 | true =>
  simp only [Option.bind_some, Bool.not_true, cond_false] at h
  obtain ⟨hm, hr, hc⟩ := h3 rfl
  obtain ⟨R, C, l, rfl, d1, d2, b1, b2, ll, ol⟩ := m_parts hm
  obtain rfl : R = 2 := by simp only at hr; omega
  obtain rfl : C = 2 := by simp only at hc; omega
  obtain ⟨l', a1, a2, a3⟩ := adj_some (R := 2) (C := 2) ol
  have hi := impl_adj (R := 2) (C := 2) hm
  rw [a1] at hi
  have hu : F_impl_IsUnitary (TMatrix.mk ((2 : Nat) : Int) ((2 : Nat) : Int) l) = some (true, true) := by
   obtain ⟨u, ok, _, u2, _⟩ := uni_both (TMatrix.mk ((2 : Nat) : Int) ((2 : Nat) : Int) l) (by simp only; omega)
   unfold F_impl_IsOneQubit at h2
   rw [impl_mgood _ (by simp only; omega), hm] at h2
   simp only [Option.bind_some, Bool.not_true, bne_self_eq_false, Bool.or_self, cond_false] at h2
   rw [show (((2 : Nat) : Int) != 2) = false from rfl] at h2
   simp only [cond_false, Bool.or_self] at h2
   rw [u2] at h2 ⊢
   simp only [Option.bind_some, Option.some.injEq, Bool.and_eq_true] at h2
   rw [h2.1, h2.2]
  have hmm := uni_inv hm a1 hu
  have hU := row_u ol a2 a1 hmm
  obtain ⟨e1, e2⟩ := bg_impl ol ll a2 a3
  rw [hi] at h
  simp only [mR, Option.bind_some] at h
  rw [show ((forX (F_impl_BlochOf_l1 (TMatrix.mk ((2 : Nat) : Int) ((2 : Nat) : Int) l) (TMatrix.mk ((2 : Nat) : Int) ((2 : Nat) : Int) l')) 3 0 []).bind <| orR fun Cells => some (((TBloch.mk Cells), true))) = _ from e1] at h
  cases hb : bgO l l' with
  | none => rw [hb] at h; simp at h
  | some x =>
   rw [hb] at h
   have h := (Prod.mk.inj (Option.some.inj h)).1
   subst h
   exact ⟨l, l', rfl, ll, ol, a2, a3, a1, hU, hb⟩
theorem bl_okv {m : TMatrix} (hO : OneOff m) {b : TBloch} (h : F_impl_BlochOf m = some (b, true)) : bvO b.Cells = true := by
 obtain ⟨l, l', rfl, ll, ol, ol', ll', ha, hU, hx⟩ := bl_from (by have := hO.1; omega) h
 obtain ⟨p, hp⟩ := hO.2
 have hB := row_BL ol ll hU hp
 exact bl_valid ol ol' ha hU hx (bl_BL ol ol' ha hU hx hB (adj_bd (by decide) hB ha).1)
theorem prod_conj (a b c d : TRing) : rConj (rPlus (rPlus rZero (eMul a b)) (eMul c d)) = rPlus (rPlus rZero (eMul (rConj b) (rConj a))) (eMul (rConj d) (rConj c)) := by
 rw [conj_plus, conj_plus, ← conj_mul, ← conj_mul, eMul_comm (rConj a), eMul_comm (rConj c)]; rfl
theorem mb_get {a b y : List TDyadic} (h : mbO a b = some y) : y.length = 9 ∧ ∀ i j, i < 3 → j < 3 → mbCell a b i j = some (y.getD (i * 3 + j) dZero) := grid_get (cell := mbCell a b) (R := 3) (C := 3) h
theorem bl_mult {l l' m m' q q' x w v y : List TDyadic} (ol : okD l) (ol' : okD l') (hl : adO l 2 2 = some l') (hU : RowU (cV l)) (hx : bgO l l' = some x)
  (om : okD m) (om' : okD m') (hm : adO m 2 2 = some m') (hV : RowU (cV m)) (hw : bgO m m' = some w) (hq : mmO l m 2 2 2 = some q) (oq' : okD q') (hq' : adO q 2 2 = some q') (hv : bgO q q' = some v) (hy : mbO x w = some y) : v = y := by
 obtain ⟨_, oq, _⟩ := mm_val ol om hq
 have H := rl_zero hU hV
 obtain ⟨y1, y2⟩ := mb_get hy
 have ox : okD x := fun z hz => by
  obtain ⟨p, hp, rfl⟩ := List.mem_iff_getElem.1 hz
  have hl9 := (grid_get hx).1
  have hd := (bl_t ol ol' hl hx (cV l) (show p / 3 < 3 by omega) (show p % 3 < 3 by omega)).2
  rwa [show p / 3 * 3 + p % 3 = p by omega, List.getD_eq_getElem?_getD, List.getElem?_eq_getElem hp] at hd
 have ow : okD w := fun z hz => by
  obtain ⟨p, hp, rfl⟩ := List.mem_iff_getElem.1 hz
  have hl9 := (grid_get hw).1
  have hd := (bl_t om om' hm hw (cV m) (show p / 3 < 3 by omega) (show p % 3 < 3 by omega)).2
  rwa [show p / 3 * 3 + p % 3 = p by omega, List.getD_eq_getElem?_getD, List.getElem?_eq_getElem hp] at hd
 refine grid_ext (R := 3) (C := 3) (grid_get hv).1 y1 fun i j hi hj => ?_
 have hcell := y2 i j hi hj
 unfold mbCell at hcell
 obtain ⟨oy, vy⟩ := dot_val (fun k => getD_ok ox (3 * i + k)) (fun k => getD_ok ow (3 * k + j)) hcell
 have A := mm_pe (ρ := bE (cV l) (cV m)) (s := 0) (t := 0) (u := 0) (v := 0) ol om hq (cells_m l (cV m)) (cells_m2 m (cV l))
 have A : ∀ p, p < 4 → rIt 60 (cV q p) = evP (bE (cV l) (cV m)) (mmPE (mV 0) (mV 10) p) := A
 obtain ⟨c0, c1, c2, c3⟩ := adj_cells hq'
 have A1 : ∀ p, p < 4 → rIt 60 (cV q' p) = evP (bE (cV l) (cV m)) (mmPE (mW 10) (mW 0) p) := fun p hp => by
  match p, hp with
  | 0, _ => rw [c0, conj_it, A 0 (by decide)]; exact prod_conj _ _ _ _
  | 1, _ => rw [c1, conj_it, A 2 (by decide)]; exact prod_conj _ _ _ _
  | 2, _ => rw [c2, conj_it, A 1 (by decide)]; exact prod_conj _ _ _ _
  | 3, _ => rw [c3, conj_it, A 3 (by decide)]; exact prod_conj _ _ _ _
 obtain ⟨t1, ov⟩ := bl_val (ρ := bE (cV l) (cV m)) rfl (s := 60) oq oq' A A1 hi hj ((grid_get hv).2 i j hi hj)
 have hmul := mlt_all (bE (cV l) (cV m)) H i j hi hj
 refine v_inj ov oy (it_inj 184 ?_)
 have e1 : rIt 184 (vOf (v.getD (i * 3 + j) dZero)) = evP (bE (cV l) (cV m)) (.m (.k 2) (tPE (mmPE (mV 0) (mV 10)) (mmPE (mW 10) (mW 0)) i j)) := by
  show _ = eMul (rK 2) _
  rw [← t1, two_it, ← rIt_add]
 have tl := fun {k : Nat} (hk : k < 3) => (bl_t ol ol' hl hx (cV m) hi hk).1
 have tm := fun {k : Nat} (hk : k < 3) => bl_val (ρ := bE (cV l) (cV m)) rfl (s := 0) om om' (cells_m2 m (cV l)) (cells_w2 hm (cV l)) hk hj ((grid_get hw).2 k j hk hj)
 rw [e1, hmul, show 184 = 124 + 60 from rfl, rIt_add 124 60, vy]
 show evP _ (qPE i j) = rIt 124 (rPlus (rPlus (rPlus rZero (eMul (vOf (x.getD (3 * i + 0) dZero)) (vOf (w.getD (3 * 0 + j) dZero)))) (eMul (vOf (x.getD (3 * i + 1) dZero)) (vOf (w.getD (3 * 1 + j) dZero)))) (eMul (vOf (x.getD (3 * i + 2) dZero)) (vOf (w.getD (3 * 2 + j) dZero))))
 rw [rIt_plus, rIt_plus, rIt_plus, it_z, ← mul_its 62 62, ← mul_its 62 62, ← mul_its 62 62, Nat.mul_comm 3 i, Nat.mul_comm 3 0, Nat.mul_comm 3 1, Nat.mul_comm 3 2]
 rw [show rIt 62 (vOf (x.getD (i * 3 + 0) dZero)) = _ from tl (show 0 < 3 by decide), show rIt 62 (vOf (x.getD (i * 3 + 1) dZero)) = _ from tl (show 1 < 3 by decide), show rIt 62 (vOf (x.getD (i * 3 + 2) dZero)) = _ from tl (show 2 < 3 by decide),
  show rIt 62 (vOf (w.getD (0 * 3 + j) dZero)) = _ from (tm (show 0 < 3 by decide)).1, show rIt 62 (vOf (w.getD (1 * 3 + j) dZero)) = _ from (tm (show 1 < 3 by decide)).1, show rIt 62 (vOf (w.getD (2 * 3 + j) dZero)) = _ from (tm (show 2 < 3 by decide)).1]
 rfl
theorem forX_find {ρ : Type} {f : Nat → Unit → Option (Ex Unit ρ)} (p : Nat → Bool) (g : Nat → ρ) : ∀ n i, (∀ j, i ≤ j → j < i + n → f j () = some (bif p j then .rt (g j) else .nx ())) →
  forX f n i () = some (match (List.range' i n).find? p with | some j => .inr (g j) | none => .inl ())
 | 0, i, _ => rfl
 | n + 1, i, h => by
  rw [forX, h i (Nat.le_refl i) (by omega), List.range'_succ, List.find?_cons]
  cases hp : p i with
  | true => rfl
  | false => exact forX_find p g n (i + 1) (fun j h1 h2 => h j (by omega) (by omega))
theorem list_nine (i : Nat) (x : List TDyadic) (h : listL[i]? = some x) : x.length = 9 := by
 have : ∀ y ∈ listL, y.length = 9 := by decide
 exact this x (List.mem_of_getElem? h)
def hitB (b : TBloch) (i : Nat) : Bool := match listL[i]? with | some x => decide (x = b.Cells) | none => false
theorem impl_idx (b : TBloch) : ((chk (listL.length ≤ 9223372036854775807) <| (forX (F_impl_CliffordIndex_l1 listL b) listL.length 0 ()).bind <| orR fun _ => some ((0, false))) : Option (Int × Bool)) =
  some (match (List.range' 0 24).find? (hitB b) with | some j => ((j : Int), true) | none => (0, false)) := by
 rw [chk_t (by decide), show listL.length = 24 from rfl, forX_find (hitB b) (fun j => ((j : Int), true)) 24 0 (fun j _ hj => by
  have hj : j < 24 := by omega
  unfold F_impl_CliffordIndex_l1 hitB
  rw [getI_nat]
  cases hl : listL[j]? with
  | none => exact absurd (List.getElem?_eq_none_iff.1 hl) (by show ¬ (24 ≤ j); omega)
  | some x =>
   rw [Option.bind_some, impl_leq (by rw [list_nine j x hl]; omega), Option.bind_some]
   show (bif decide (x = b.Cells) then _ else _) = some (bif decide (x = b.Cells) then _ else _)
   cases decide (x = b.Cells) <;> rfl)]
 cases (List.range' 0 24).find? (hitB b) <;> rfl
theorem idx_iff {b : TBloch} (hv : bvO b.Cells = true) : ∃ k f, F_impl_CliffordIndex b = some (k, f) ∧ (f = true ↔ b.Cells ∈ listL) := by
 unfold F_impl_CliffordIndex
 rw [impl_valid, hv, list_impl]
 simp only [Option.bind_some, Bool.not_true, cond_false]
 rw [impl_idx]
 cases h : (List.range' 0 24).find? (hitB b) with
 | some j =>
  refine ⟨_, _, rfl, fun _ => ?_, fun _ => rfl⟩
  have := List.find?_some h
  unfold hitB at this
  cases hl : listL[j]? with
  | none => rw [hl] at this; cases this
  | some x =>
   rw [hl] at this
   have := of_decide_eq_true this
   rw [← this]
   exact List.mem_of_getElem? hl
 | none =>
  refine ⟨_, _, rfl, (fun h : false = true => by cases h), fun hm => ?_⟩
  exfalso
  obtain ⟨j, hj, e⟩ := List.mem_iff_getElem.1 hm
  have := List.find?_eq_none.1 h j (by rw [List.mem_range'_1]; exact ⟨Nat.zero_le _, by show j < 0 + 24; have : listL.length = 24 := rfl; omega⟩)
  apply this
  unfold hitB
  rw [List.getElem?_eq_getElem hj]
  exact decide_eq_true e
def triL : List TDyadic := [dI 0, dI 1, dI (-1)]
def sixA : List (List TDyadic) := [[dI 1, dI 0, dI 0], [dI (-1), dI 0, dI 0], [dI 0, dI 1, dI 0], [dI 0, dI (-1), dI 0], [dI 0, dI 0, dI 1], [dI 0, dI 0, dI (-1)]]
def sixL (i : Nat) : List TDyadic := sixA.getD i []
def dot3 (a b : List TDyadic) : Option TDyadic := forN (dotS (fun k => a.getD k dZero) (fun k => b.getD k dZero)) 3 0 dZero
theorem six_row : (triL.all fun a => triL.all fun b => triL.all fun c => !(decide (dot3 [a, b, c] [a, b, c] = some dOne)) || decide ([a, b, c] ∈ sixA)) = true := by decide +kernel
theorem six_pair : ∀ a : Fin 3, ∀ s t : Fin 2, dot3 (sixL (2 * a.val + s.val)) (sixL (2 * a.val + t.val)) ≠ some dZero := by decide +kernel
def sixE (i j k : Nat) : Bool := Nat.beq (i / 2) (j / 2) || (Nat.beq (i / 2) (k / 2) || (Nat.beq (j / 2) (k / 2) || (!(decide (detO (sixL i ++ sixL j ++ sixL k) = some dOne)) || decide (sixL i ++ sixL j ++ sixL k ∈ listL))))
def sixF (i : Nat) (js ks : List Nat) : Bool := js.all fun j => ks.all fun k => sixE i j k
def sixD (i : Nat) : Bool := sixF i [0, 1, 2, 3, 4, 5] [0, 1, 2, 3, 4, 5]
theorem six_0 : sixD 0 = true := by decide +kernel
theorem six_1 : sixD 1 = true := by decide +kernel
theorem six_2 : sixD 2 = true := by decide +kernel
theorem six_3 : sixD 3 = true := by decide +kernel
theorem six_4 : sixD 4 = true := by decide +kernel
theorem six_5 : sixD 5 = true := by decide +kernel
theorem six_any (i : Nat) (h : i < 6) : sixD i = true := by
 rcases (show i = 0 ∨ i = 1 ∨ i = 2 ∨ i = 3 ∨ i = 4 ∨ i = 5 by omega) with rfl | rfl | rfl | rfl | rfl | rfl
 ·exact six_0
 ·exact six_1
 ·exact six_2
 ·exact six_3
 ·exact six_4
 ·exact six_5
theorem six_all {i j k : Nat} (hi : i < 6) (hj : j < 6) (hk : k < 6) (hij : i / 2 ≠ j / 2) (hik : i / 2 ≠ k / 2) (hjk : j / 2 ≠ k / 2) (hd : detO (sixL i ++ sixL j ++ sixL k) = some dOne) : sixL i ++ sixL j ++ sixL k ∈ listL := by
 have h : sixD i = true := six_any i hi
 have hm : ∀ n, n < 6 → n ∈ [0, 1, 2, 3, 4, 5] := fun n hn => by simp; omega
 have key : ∀ {js ks : List Nat}, sixF i js ks = true → j ∈ js → k ∈ ks → sixE i j k = true := fun h hj hk => List.all_eq_true.1 (List.all_eq_true.1 h j hj) k hk
 have h3 := key h (hm j hj) (hm k hk)
 unfold sixE at h3
 rcases Bool.or_eq_true_iff.1 h3 with h4 | h3
 ·exact absurd (Nat.eq_of_beq_eq_true h4) hij
 rcases Bool.or_eq_true_iff.1 h3 with h4 | h3
 ·exact absurd (Nat.eq_of_beq_eq_true h4) hik
 rcases Bool.or_eq_true_iff.1 h3 with h4 | h3
 ·exact absurd (Nat.eq_of_beq_eq_true h4) hjk
 rcases Bool.or_eq_true_iff.1 h3 with h4 | h3
 ·rw [decide_eq_true hd] at h4
  cases h4
 ·exact of_decide_eq_true h3
theorem six_of {a : List TDyadic} (h : a ∈ sixA) : ∃ i, i < 6 ∧ a = sixL i := by
 obtain ⟨i, hi, e⟩ := List.mem_iff_getElem.1 h
 refine ⟨i, hi, ?_⟩
 unfold sixL
 rw [List.getD_eq_getElem?_getD, List.getElem?_eq_getElem hi]
 exact e.symm
theorem six_ne {i j : Nat} (hi : i < 6) (hj : j < 6) (h : dot3 (sixL i) (sixL j) = some dZero) : i / 2 ≠ j / 2 := fun e => by
 have := six_pair ⟨i / 2, by omega⟩ ⟨i % 2, by omega⟩ ⟨j % 2, by omega⟩
 simp only at this
 rw [show 2 * (i / 2) + i % 2 = i by omega, show 2 * (i / 2) + j % 2 = j by omega] at this
 exact this h
theorem tri_of {x : TDyadic} (hr : realB x = true) (he : x.Exp = 0) (hs : x.Num.A * x.Num.A + 2 * (x.Num.B * x.Num.B) ≤ 1) : x ∈ triL := by
 obtain ⟨h1, h2⟩ := real_of hr
 obtain ⟨⟨A, B, C, D⟩, e⟩ := x
 simp only [rReal, TRing.mk.injEq] at h2 he hs
 obtain ⟨_, _, rfl, rfl⟩ := h2
 subst he
 have hB : B = 0 := by
  have p1 := sq_nonneg A
  have p2 := sq_nonneg B
  rcases Int.lt_trichotomy B 0 with h | h | h
  ·have := Int.mul_le_mul_of_nonpos_right (show B ≤ -1 by omega) (show B ≤ 0 by omega)
   omega
  ·exact h
  ·have := Int.mul_le_mul_of_nonneg_right (show (1 : Int) ≤ B by omega) (show 0 ≤ B by omega)
   omega
 subst hB
 have hA : A = 0 ∨ A = 1 ∨ A = -1 := by
  rcases Int.lt_trichotomy A 0 with h | h | h
  ·by_cases h2 : A = -1
   ·exact .inr (.inr h2)
   ·have := Int.mul_le_mul_of_nonpos_right (show A ≤ -2 by omega) (show A ≤ 0 by omega)
    omega
  ·exact .inl h
  ·by_cases h2 : A = 1
   ·exact .inr (.inl h2)
   ·have := Int.mul_le_mul_of_nonneg_right (show (2 : Int) ≤ A by omega) (show 0 ≤ A by omega)
    omega
 rcases hA with rfl | rfl | rfl <;> decide
theorem exp0_in {x : List TDyadic} (hv : bvO x = true) (h0 : ∀ z ∈ x, z.Exp = 0) : x ∈ listL := by
 obtain ⟨h9, hb⟩ := bv_bound hv
 have ht : ∀ z ∈ x, z ∈ triL := fun z hz => by
  obtain ⟨a, b, c⟩ := hb z hz
  have e := h0 z hz
  rw [e] at c
  exact tri_of a e c
 obtain ⟨x0, x1, x2, x3, x4, x5, x6, x7, x8, rfl⟩ := nine h9
 have hv2 := hv
 unfold bvO at hv2
 simp only [Bool.and_eq_true] at hv2
 cases hm : mbO [x0, x1, x2, x3, x4, x5, x6, x7, x8] (turn9 [x0, x1, x2, x3, x4, x5, x6, x7, x8]) with
 | none => rw [hm] at hv2; simp at hv2
 | some p =>
  rw [hm] at hv2
  cases hd : detO [x0, x1, x2, x3, x4, x5, x6, x7, x8] with
  | none => rw [hd] at hv2; simp at hv2
  | some d =>
   rw [hd] at hv2
   simp only [Bool.and_eq_true, decide_eq_true_eq] at hv2
   obtain ⟨_, rfl, rfl⟩ := hv2
   obtain ⟨_, g⟩ := mb_get hm
   have row : ∀ a b c : TDyadic, a ∈ triL → b ∈ triL → c ∈ triL → dot3 [a, b, c] [a, b, c] = some dOne → [a, b, c] ∈ sixA := fun a b c ha hb hc h => by
    have := List.all_eq_true.1 (List.all_eq_true.1 (List.all_eq_true.1 six_row a ha) b hb) c hc
    rw [decide_eq_true h] at this
    simpa using this
   have cell : ∀ {a b c a' b' c' : TDyadic} {i j : Nat} {z : TDyadic}, mbCell [x0, x1, x2, x3, x4, x5, x6, x7, x8] (turn9 [x0, x1, x2, x3, x4, x5, x6, x7, x8]) i j = some z → (∀ k, k < 3 → [x0, x1, x2, x3, x4, x5, x6, x7, x8].getD (3 * i + k) dZero = [a, b, c].getD k dZero ∧ (turn9 [x0, x1, x2, x3, x4, x5, x6, x7, x8]).getD (3 * k + j) dZero = [a', b', c'].getD k dZero) → dot3 [a, b, c] [a', b', c'] = some z := fun {a b c a' b' c' i j z} h hk => by
    rw [← h]
    unfold dot3 mbCell
    have e0 := hk 0 (by decide); have e1 := hk 1 (by decide); have e2 := hk 2 (by decide)
    simp only [forN, dotS]
    rw [e0.1, e0.2, e1.1, e1.2, e2.1, e2.2]
   have k3 : ∀ k, k < 3 → k = 0 ∨ k = 1 ∨ k = 2 := fun k hk => by omega
   have r0 := row x0 x1 x2 (ht _ (by simp)) (ht _ (by simp)) (ht _ (by simp)) (cell (g 0 0 (by decide) (by decide)) (fun k hk => by rcases k3 k hk with rfl | rfl | rfl <;> exact ⟨rfl, rfl⟩))
   have r1 := row x3 x4 x5 (ht _ (by simp)) (ht _ (by simp)) (ht _ (by simp)) (cell (g 1 1 (by decide) (by decide)) (fun k hk => by rcases k3 k hk with rfl | rfl | rfl <;> exact ⟨rfl, rfl⟩))
   have r2 := row x6 x7 x8 (ht _ (by simp)) (ht _ (by simp)) (ht _ (by simp)) (cell (g 2 2 (by decide) (by decide)) (fun k hk => by rcases k3 k hk with rfl | rfl | rfl <;> exact ⟨rfl, rfl⟩))
   have c01 : dot3 [x0, x1, x2] [x3, x4, x5] = some dZero := cell (g 0 1 (by decide) (by decide)) (fun k hk => by rcases k3 k hk with rfl | rfl | rfl <;> exact ⟨rfl, rfl⟩)
   have c02 : dot3 [x0, x1, x2] [x6, x7, x8] = some dZero := cell (g 0 2 (by decide) (by decide)) (fun k hk => by rcases k3 k hk with rfl | rfl | rfl <;> exact ⟨rfl, rfl⟩)
   have c12 : dot3 [x3, x4, x5] [x6, x7, x8] = some dZero := cell (g 1 2 (by decide) (by decide)) (fun k hk => by rcases k3 k hk with rfl | rfl | rfl <;> exact ⟨rfl, rfl⟩)
   obtain ⟨i, hi, ei⟩ := six_of r0
   obtain ⟨j, hj, ej⟩ := six_of r1
   obtain ⟨k, hk, ek⟩ := six_of r2
   rw [ei, ej] at c01
   rw [ei, ek] at c02
   rw [ej, ek] at c12
   have e : [x0, x1, x2, x3, x4, x5, x6, x7, x8] = sixL i ++ sixL j ++ sixL k := by rw [← ei, ← ej, ← ek]; rfl
   rw [e] at hd ⊢
   exact six_all hi hj hk (six_ne hi hj c01) (six_ne hi hk c02) (six_ne hj hk c12) hd
theorem list_exp : (listL.all fun x => x.all fun z => z.Exp == 0) = true := by decide
theorem exp_impl {b : TBloch} (hl : b.Cells.length = 9) (h : ∀ z ∈ b.Cells, 0 ≤ z.Exp) : ∃ E, F_impl_blochExp b = some E ∧ (E = 0 ↔ ∀ z ∈ b.Cells, z.Exp = 0) := by
 obtain ⟨E, h1, h2, h3⟩ := forN_inv (f := F_impl_blochExp_l1 b) (fun k (s : Int) => 0 ≤ s ∧ (s = 0 ↔ ∀ (i : Nat) x, i < k → b.Cells[i]? = some x → x.Exp = 0)) b.Cells.length 0 0 ⟨by decide, fun _ i x h => absurd h (Nat.not_lt_zero _), fun _ => rfl⟩ (fun j s _ hj ⟨i1, i2⟩ => by
  have hx := List.getElem?_eq_getElem (show j < b.Cells.length by omega)
  have hm := h _ (List.mem_of_getElem? hx)
  generalize b.Cells[j] = y at hx hm
  refine ⟨if s < y.Exp then y.Exp else s, ?_, ?_, fun h0 i x hi hxi => ?_, fun h0 => ?_⟩
  ·unfold F_impl_blochExp_l1
   rw [getI_nat, hx]; rfl
  ·split <;> omega
  ·by_cases hij : i = j
   ·subst hij; rw [hx] at hxi; cases hxi
    split at h0 <;> omega
   ·exact i2.1 (by split at h0 <;> omega) i x (by omega) hxi
  ·have e1 := i2.2 fun i x hi hxi => h0 i x (by omega) hxi
   have e2 := h0 j y (by omega) hx
   rw [if_neg (by omega)]; exact e1)
 refine ⟨E, ?_, ?_⟩
 ·unfold F_impl_blochExp
  rw [chk_t (by omega), h1]; rfl
 ·rw [h3]
  constructor
  ·intro hh z hz
   obtain ⟨p, hp, rfl⟩ := List.mem_iff_getElem.1 hz
   exact hh p _ (by omega) (List.getElem?_eq_getElem hp)
  ·intro hh i x _ hx
   exact hh x (List.mem_of_getElem? hx)
theorem same_self {b : TBloch} (hl : b.Cells.length ≤ 1048576) : F_laws_pSameBloch b b = some true := by
 unfold F_laws_pSameBloch
 rw [show ((b.Cells.length : Int) != (b.Cells.length : Int)) = false from bne_self_eq_false _]
 simp only [cond_false]
 rw [chk_t (by omega), forX_same (f := F_laws_pSameBloch_l1 b b) (l := b.Cells) (l' := b.Cells) (q := false) rfl (fun i x y hx hy => by
  unfold F_laws_pSameBloch_l1
  have hxy : x = y := Option.some.inj (hx.symm.trans hy)
  subst hxy
  rw [getI_nat, hx]
  simp only [Option.bind_some]
  rw [dy_eq, decide_eq_true rfl]; rfl), if_pos rfl]
 rfl
theorem law_FnBloch (a0 a1 : List Int) (o0 : a0.length ≤ 9223372036854775807 ∧ ∀ y ∈ a0, U8 y) (o1 : a1.length ≤ 9223372036854775807 ∧ ∀ y ∈ a1, U8 y) : F_laws_FnBloch a0 a1 = some true := by
 unfold F_laws_FnBloch F_laws_big
 simp only [Option.bind_some]
 cases (decide (1048576 < (a0.length : Int))) || (decide ((IntKind.i64.wrap (1048576 - (a0.length : Int))) < (a1.length : Int))) with
 | true => rfl
 | false =>
  simp only [cond_false]
  obtain ⟨m, hd, hm⟩ := drawBl (code := a0) o0
  obtain ⟨n, hd2, hn⟩ := drawBl (code := a1) o1
  have lm := hm.1
  have ln := hn.1
  rw [hd]; simp only [Option.bind_some]
  rw [hd2]; simp only [Option.bind_some]
  obtain ⟨b, ok, s1, i1, l1⟩ := bloch_both m (by omega)
  obtain ⟨b2, ok2, s2, i2, l2⟩ := bloch_both n (by omega)
  rw [i1, i2, s1]
  simp only [Option.bind_some, beq_self_eq_true, Bool.not_true, Bool.not_false, gb, cond_true]
  rw [same_self (by omega)]
  simp only [Option.bind_some, Bool.not_true, Bool.or_self, cond_false]
  refine (orR_go (s := ()) ?_).trans ?_
  ·cases ok with
   | false => rfl
   | true =>
    cases ok2 with
    | false => rfl
    | true =>
     simp only [Bool.and_self, cond_true]
     obtain ⟨l, l', rfl, ll, ol, ol', ll', ha, hU, hx⟩ := bl_from (by omega) i1
     obtain ⟨k, k', rfl, lk, ok_, ok', lk', hk, hV, hw⟩ := bl_from (by omega) i2
     obtain ⟨M, okm, _, sm, lM, hmm⟩ := mulM_both (A := TMatrix.mk 2 2 l) (B := TMatrix.mk 2 2 k) (by simp only; omega) (by simp only; omega)
     rw [sm]
     simp only [Option.bind_some]
     obtain ⟨b3, ok3, s3, i3, l3⟩ := bloch_both M (by omega)
     rw [i3]
     simp only [Option.bind_some]
     have v1 := bl_okv hm i1
     have v2 := bl_okv hn i2
     have ox := real_ok (by unfold bvO at v1; simp only [Bool.and_eq_true] at v1; exact v1.1.2)
     have ow := real_ok (by unfold bvO at v2; simp only [Bool.and_eq_true] at v2; exact v2.1.2)
     have lx : b.Cells.length = 9 := (grid_get hx).1
     have lw : b2.Cells.length = 9 := (grid_get hw).1
     unfold F_impl_MulBloch
     rw [impl_valid, impl_valid, v1, v2]
     simp only [Option.bind_some, Bool.not_true, Bool.not_false, gb, cond_true, Bool.or_self, cond_false]
     rw [(im_bloch ox ow lx lw).1]
     simp only [Option.bind_some]
     cases okm with
     | false => rfl
     | true =>
      cases ok3 with
      | false => rfl
      | true =>
       cases hy : mbO b.Cells b2.Cells with
       | none => rfl
       | some y =>
        obtain ⟨R, K, C, la, lb, q, eA, eB, _, _, rfl, hmq, hq⟩ := hmm rfl
        obtain ⟨rfl, rfl, rfl⟩ := mk_inj2 (R := 2) (C := 2) eA
        obtain ⟨_, rfl, rfl⟩ := mk_inj2 (R := 2) (C := 2) eB
        obtain ⟨q0, q', eq, lq, oq, oq', lq', hq', hW, hv⟩ := bl_from (by omega) i3
        obtain ⟨_, _, rfl⟩ := TMatrix.mk.inj eq
        have e := bl_mult ol ol' ha hU hx ok_ ok' hk hV hw hq oq' hq' hv hy
        obtain ⟨c3⟩ := b3
        have e : c3 = y := e
        subst e
        simp only [lR, Bool.and_self, gb, cond_true]
        rw [same_self (by have : c3.length = 9 := (grid_get hv).1; simp only; omega)]
        rfl
  ·cases ok with
   | false => rfl
   | true =>
    simp only [cond_true]
    have v1 := bl_okv hm i1
    obtain ⟨h9, hb⟩ := bv_bound v1
    obtain ⟨E, e1, e2⟩ := exp_impl h9 (fun z hz => by
     have := (real_of (hb z hz).1).1
     exact (d_parts this).2.1)
    have hE : F_impl_BlochExp b = some (E, true) := by
     unfold F_impl_BlochExp
     rw [impl_valid, v1]
     simp only [Option.bind_some, Bool.not_true, cond_false, e1]
    obtain ⟨k, f, f1, f2⟩ := idx_iff v1
    rw [hE, f1]
    simp only [Option.bind_some, Bool.and_self, gb, cond_true]
    simp only [Bool.true_and, Option.some.injEq]
    have key : (E = 0) ↔ f = true := by
     rw [f2, e2]
     constructor
     ·exact fun h => exp0_in v1 h
     ·intro h z hz
      have := List.all_eq_true.1 (List.all_eq_true.1 list_exp _ h) z hz
      simpa using this
    by_cases hE0 : E = 0
    ·rw [key.1 hE0, hE0]; rfl
    ·have : f = false := by
      cases f with
      | false => rfl
      | true => exact absurd (key.2 rfl) hE0
     rw [this, show (E == 0) = false from beq_false_of_ne hE0]; rfl
end Go.VK
