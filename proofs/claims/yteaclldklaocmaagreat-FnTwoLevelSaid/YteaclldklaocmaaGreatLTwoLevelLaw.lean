/- The plain law of FnTwoLevel: what its Lean function answers, for all arguments. -/
import Derived.Test.YteaclldklaocmaaGreatLTwoLevelLaw1
set_option maxRecDepth 10000
set_option maxHeartbeats 1000000
set_option linter.unusedSimpArgs false
set_option linter.unusedVariables false
namespace Go.VK
theorem pw_fin : ∀ a b c d p q r s : Bool, tyP a b c d = tyP p q r s → tyP a b c d ≠ 0 → (pwP a b c d p q r s || pwP a b c d s p q r || pwP a b c d r s p q || pwP a b c d q r s p) = true := by decide +kernel
theorem pw_ex {x y : TRing} (h : tyI x = tyI y) (h0 : tyI x ≠ 0) : ∃ m, pwL x y = some m := by
 rw [ty_par, ty_par y] at h
 rw [ty_par] at h0
 have hf := pw_fin _ _ _ _ _ _ _ _ h h0
 have p0 : pwB x y 0 = pwP (e2 x.A) (e2 x.B) (e2 x.C) (e2 x.D) (e2 y.A) (e2 y.B) (e2 y.C) (e2 y.D) := pw_par x y
 have p1 : pwB x y 1 = pwP (e2 x.A) (e2 x.B) (e2 x.C) (e2 x.D) (e2 y.D) (e2 y.A) (e2 y.B) (e2 y.C) := by rw [← e2_neg y.D]; exact pw_par x (wR y)
 have p2 : pwB x y 2 = pwP (e2 x.A) (e2 x.B) (e2 x.C) (e2 x.D) (e2 y.C) (e2 y.D) (e2 y.A) (e2 y.B) := by rw [← e2_neg y.D, ← e2_neg y.C]; exact pw_par x (wR (wR y))
 have p3 : pwB x y 3 = pwP (e2 x.A) (e2 x.B) (e2 x.C) (e2 x.D) (e2 y.B) (e2 y.C) (e2 y.D) (e2 y.A) := by rw [← e2_neg y.D, ← e2_neg y.C, ← e2_neg y.B]; exact pw_par x (wR (wR (wR y)))
 rw [← p0, ← p1, ← p2, ← p3] at hf
 have : ∃ m, m < 8 ∧ pwB x y m = true := by
  rcases Bool.or_eq_true_iff.1 hf with hf | hf
  ·rcases Bool.or_eq_true_iff.1 hf with hf | hf
   ·rcases Bool.or_eq_true_iff.1 hf with hf | hf
    ·exact ⟨0, by decide, hf⟩
    ·exact ⟨1, by decide, hf⟩
   ·exact ⟨2, by decide, hf⟩
  ·exact ⟨3, by decide, hf⟩
 obtain ⟨m, hm, hp⟩ := this
 unfold pwL
 cases hc : (List.range' 0 8).find? (pwB x y) with
 | some k => exact ⟨k, rfl⟩
 | none =>
  have := List.find?_eq_none.1 hc m (by rw [List.mem_range'_1]; omega)
  exact absurd hp this
theorem pw_lt {x y : TRing} {m : Nat} (h : pwL x y = some m) : m < 8 ∧ pwB x y m = true := by
 unfold pwL at h
 have h1 := List.mem_of_find?_eq_some h
 rw [List.mem_range'_1] at h1
 exact ⟨by omega, List.find?_some h⟩
def lvl (k : Int) (x : TDyadic) : TRing := rIt (k - x.Exp).toNat x.Num
theorem lvl_v {k : Int} {x : TDyadic} (hx : dOk x = true) (h : x.Exp ≤ k) (hk : k ≤ 60) : vOf x = rIt (60 - k).toNat (lvl k x) := by
 have := (d_parts hx).2.1
 unfold vOf lvl
 rw [← rIt_add]
 congr 1
 omega
/-- A cell of a column: of measure one at most, and exponent k at most. -/
def cB1 (k : Int) (x : TDyadic) : Prop := dOk x = true ∧ x.Exp ≤ k ∧ nR (vOf x) ≤ 1 * 2 ^ 60
theorem lvl_j {k : Int} {x : TDyadic} (h : cB1 k x) (hk : 0 ≤ k ∧ k ≤ 30) {j : Nat} (hj : j ≤ (k - x.Exp).toNat) : bR (rIt j x.Num) := by
 have h0 := (d_parts h.1).2.1
 have hb : Bd k.toNat 1 x := ⟨h.1, by have := h.2.1; omega, h.2.2⟩
 have := bd_it hb (by omega) (by decide) (j := j) (by have := h.2.1; omega)
 have hp : (2 : Int) ^ k.toNat ≤ 2 ^ 30 := p2_le (by omega)
 unfold bR
 omega
theorem lvl_b {k : Int} {x : TDyadic} (h : cB1 k x) (hk : 0 ≤ k ∧ k ≤ 30) : bR (lvl k x) := lvl_j h hk (Nat.le_refl _)
theorem raised_lvl {k : Int} {x : TDyadic} (h : cB1 k x) (hk : 0 ≤ k ∧ k ≤ 30) : F_impl_raised x k = some (lvl k x, true) := by
 obtain ⟨a, oa, h1, h2, h3, h4⟩ := raised_some h.1 h.2.1 (show k ≤ 60 by omega)
 have ho := h4 (fun j hj => bR_ok (lvl_j h hk hj))
 subst ho
 rw [h1, h3 rfl]; rfl
def lvT (k : Int) (l : List TDyadic) : List TRing := l.map (lvl k)
def nxT (L : List TRing) : Option TTwoLevel := match nextL L with | some (i, j) => some (TTwoLevel.mk 3 (i : Int) (j : Int) (match pwL (L.getD i rZero) (L.getD j rZero) with | some m => (m : Int) | none => 0)) | none => none
def nxR (o : Option TTwoLevel) : TTwoLevel × Bool := match o with | some t => (t, true) | none => (TTwoLevel.mk 0 0 0 0, false)
theorem pair_get {l : List TRing} {t : Int} {i j : Nat} (h : pairL l t = some (i, j)) : i < j ∧ j < l.length ∧ isT l t i = true ∧ isT l t j = true := by
 unfold pairL at h
 have hm : ∀ x ∈ idxT l t l.length, x < l.length ∧ isT l t x = true := fun x hx => by
  unfold idxT at hx
  rw [List.mem_filter, List.mem_range] at hx
  exact hx
 have hs : (idxT l t l.length).Pairwise (· < ·) := by
  unfold idxT
  exact List.Pairwise.filter _ List.pairwise_lt_range
 match he : idxT l t l.length, h with
 | [], h => cases h
 | [a], h => cases h
 | a :: b :: r, h =>
  rw [he] at hm hs
  have h := Option.some.inj h
  obtain ⟨rfl, rfl⟩ := Prod.mk.inj h
  have h1 := hm a (by simp)
  have h2 := hm b (by simp)
  have h3 : a < b := (List.pairwise_cons.1 hs).1 b (by simp)
  exact ⟨h3, h2.1, h1.2, h2.2⟩
theorem next_get {L : List TRing} {i j : Nat} (h : nextL L = some (i, j)) : i < j ∧ j < L.length ∧ tyI (L.getD i rZero) = tyI (L.getD j rZero) ∧ (tyI (L.getD i rZero) = 1 ∨ tyI (L.getD i rZero) = 2) := by
 have key : ∀ t : Int, (t = 1 ∨ t = 2) → pairL L t = some (i, j) → i < j ∧ j < L.length ∧ tyI (L.getD i rZero) = tyI (L.getD j rZero) ∧ (tyI (L.getD i rZero) = 1 ∨ tyI (L.getD i rZero) = 2) := fun t ht hp => by
  obtain ⟨h1, h2, h3, h4⟩ := pair_get hp
  have g : ∀ p, p < L.length → isT L t p = true → tyI (L.getD p rZero) = t := fun p hp h => by
   unfold isT at h
   rw [List.getD_eq_getElem?_getD, List.getElem?_eq_getElem hp]
   rw [List.getElem?_eq_getElem hp] at h
   exact eq_of_beq h
  have gi := g i (by omega) h3
  have gj := g j h2 h4
  exact ⟨h1, h2, by rw [gi, gj], by rw [gi]; exact ht⟩
 unfold nextL at h
 cases h1 : pairL L 1 with
 | some p =>
  rw [h1] at h
  exact key 1 (.inl rfl) (by rw [h1]; exact h)
 | none =>
  rw [h1] at h
  exact key 2 (.inr rfl) h
theorem nx_get {L : List TRing} {t : TTwoLevel} (h : nxT L = some t) : ∃ i j m : Nat, t = TTwoLevel.mk 3 (i : Int) (j : Int) (m : Int) ∧ nextL L = some (i, j) ∧ i < j ∧ j < L.length ∧ m < 8 ∧ pwL (L.getD i rZero) (L.getD j rZero) = some m := by
 unfold nxT at h
 cases hn : nextL L with
 | none => rw [hn] at h; cases h
 | some p =>
  obtain ⟨i, j⟩ := p
  rw [hn] at h
  obtain ⟨h1, h2, h3, h4⟩ := next_get hn
  obtain ⟨m, hm⟩ := pw_ex h3 (by omega)
  simp only [hm] at h
  exact ⟨i, j, m, (Option.some.inj h).symm, rfl, h1, h2, (pw_lt hm).1, hm⟩
theorem getI_g {L : List TRing} {i : Nat} (h : i < L.length) : getI L (i : Int) = some (L.getD i rZero) := by
 rw [getI_nat, List.getD_eq_getElem?_getD, List.getElem?_eq_getElem h]; rfl
theorem lower_impl {R C k : Int} {l : List TDyadic} (hl : ∀ x ∈ l, cB1 k x) (hk : 0 ≤ k ∧ k ≤ 30) (hn : l.length ≤ 100) : F_impl_lowering (TMatrix.mk R C l) k = some (nxR (nxT (lvT k l))) := by
 unfold F_impl_lowering
 rw [chk_t (by simp only; omega)]
 have hs := forX_inv (f := F_impl_lowering_l1 (TMatrix.mk R C l) k) (fun i z => z = (l.take i).map (lvl k)) (fun _ => False) l.length 0 [] (by simp) (fun i s _ hi hI => by
  subst hI
  have hx := List.getElem?_eq_getElem (show i < l.length by omega)
  have hb := hl _ (List.mem_of_getElem? hx)
  unfold F_impl_lowering_l1
  rw [getI_nat]
  simp only
  rw [hx]
  simp only [Option.bind_some]
  rw [raised_lvl hb hk]
  simp only [Option.bind_some, Bool.not_true, cond_false]
  rw [chk_t (by simp; omega)]
  refine .inl ⟨_, rfl, ?_⟩
  rw [List.take_add_one, hx, List.map_append]
  rfl)
 rcases hs with ⟨s, e, hI⟩ | ⟨r, _, hr⟩
 ·rw [Nat.zero_add, List.take_length] at hI
  subst hI
  rw [e]
  simp only [Option.bind_some, orR]
  have hL : ∀ x ∈ l.map (lvl k), bR x := fun x hx => by
   obtain ⟨y, hy, rfl⟩ := List.mem_map.1 hx
   exact lvl_b (hl y hy) hk
  rw [next_impl hL (by simp; omega)]
  unfold nxT lvT
  cases hnx : nextL (l.map (lvl k)) with
  | none => rfl
  | some p =>
   obtain ⟨i, j⟩ := p
   obtain ⟨h1, h2, h3, h4⟩ := next_get hnx
   obtain ⟨m, hm⟩ := pw_ex h3 (by omega)
   have gb_ : ∀ p, p < (l.map (lvl k)).length → bR ((l.map (lvl k)).getD p rZero) := fun p hp => by
    rw [List.getD_eq_getElem?_getD, List.getElem?_eq_getElem hp]
    exact hL _ (List.getElem_mem hp)
   simp only [pairR, Option.bind_some, Bool.not_true, cond_false]
   rw [getI_g (show i < (l.map (lvl k)).length by omega), getI_g h2]
   simp only [Option.bind_some]
   rw [mp_impl (gb_ i (by omega)) (gb_ j h2) h3 (by omega), hm]
   rfl
 ·exact hr.elim
def mxL (l : List TDyadic) : Int := l.foldl (fun m x => if m < x.Exp then x.Exp else m) 0
theorem mx_all : ∀ (l : List TDyadic) (m : Int), m ≤ l.foldl (fun m x => if m < x.Exp then x.Exp else m) m ∧ (∀ x ∈ l, x.Exp ≤ l.foldl (fun m x => if m < x.Exp then x.Exp else m) m) ∧ (l.foldl (fun m x => if m < x.Exp then x.Exp else m) m = m ∨ ∃ x ∈ l, x.Exp = l.foldl (fun m x => if m < x.Exp then x.Exp else m) m)
 | [], m => ⟨Int.le_refl _, (fun x hx => by cases hx), .inl rfl⟩
 | y :: t, m => by
  simp only [List.foldl_cons]
  obtain ⟨h1, h2, h3⟩ := mx_all t (if m < y.Exp then y.Exp else m)
  have hm : m ≤ (if m < y.Exp then y.Exp else m) ∧ y.Exp ≤ (if m < y.Exp then y.Exp else m) := by split <;> omega
  refine ⟨by omega, fun x hx => ?_, ?_⟩
  ·rcases List.mem_cons.1 hx with rfl | hx
   ·omega
   ·exact h2 x hx
  ·rcases h3 with h3 | ⟨x, hx, h3⟩
   ·by_cases hlt : m < y.Exp
    ·rw [if_pos hlt] at h3 ⊢
     exact .inr ⟨y, List.mem_cons_self .., h3.symm⟩
    ·rw [if_neg hlt] at h3 ⊢
     exact .inl h3
   ·exact .inr ⟨x, List.mem_cons_of_mem _ hx, h3⟩
theorem mx_nn (l : List TDyadic) : 0 ≤ mxL l := (mx_all l 0).1
theorem mx_le {l : List TDyadic} {x : TDyadic} (h : x ∈ l) : x.Exp ≤ mxL l := (mx_all l 0).2.1 x h
theorem mx_lt {l : List TDyadic} {k : Int} (hk : 0 ≤ k) (h : ∀ x ∈ l, x.Exp ≤ k) : mxL l ≤ k := by
 rcases (mx_all l 0).2.2 with h1 | ⟨x, hx, h1⟩
 ·unfold mxL; omega
 ·unfold mxL; rw [← h1]; exact h x hx
theorem mx_impl {R C : Int} {l : List TDyadic} (hm : mOk (TMatrix.mk R C l) = true) (hn : l.length ≤ 100) : F_impl_LeastExp (TMatrix.mk R C l) = some (mxL l, true) := by
 unfold F_impl_LeastExp
 rw [impl_mgood _ (by simp only; omega), hm]
 simp only [Option.bind_some, Bool.not_true, cond_false]
 rw [chk_t (by omega)]
 obtain ⟨z, h1, h2⟩ := forN_inv (f := F_impl_LeastExp_l1 (TMatrix.mk R C l)) (fun i z => z = (l.take i).foldl (fun m x => if m < x.Exp then x.Exp else m) 0) l.length 0 0 (by simp) (fun i s _ hi hI => by
  subst hI
  have hx := List.getElem?_eq_getElem (show i < l.length by omega)
  unfold F_impl_LeastExp_l1
  rw [getI_nat]
  simp only
  rw [hx]
  refine ⟨_, rfl, ?_⟩
  rw [List.take_add_one, hx, List.foldl_append]
  rfl)
 rw [Nat.zero_add, List.take_length] at h2
 rw [h1, h2]; rfl
def vC (l : List TDyadic) (p : Nat) : TRing := vOf (l.getD p dZero)
def UnitV (R : Nat) (l : List TDyadic) : Prop := eSum R (fun p => aSq (vC l p) (vC l p)) = rIt 120 rOne'
theorem one_120A : (rIt 120 rOne').A = 2 ^ 60 := by decide +kernel
theorem sum_A : ∀ (n : Nat) (g : Nat → TRing) , 0 ≤ (eSum n (fun p => aSq (g p) (g p))).A ∧ ∀ p, p < n → nR (g p) ≤ (eSum n (fun p => aSq (g p) (g p))).A
 | 0, _ => ⟨Int.le_refl _, fun p h => absurd h (Nat.not_lt_zero _)⟩
 | n + 1, g => by
  obtain ⟨h1, h2⟩ := sum_A n g
  have e : (eSum (n + 1) (fun p => aSq (g p) (g p))).A = (eSum n (fun p => aSq (g p) (g p))).A + (aSq (g n) (g n)).A := rfl
  rw [e, aSq_A]
  have hn := nR_nn (g n)
  refine ⟨by omega, fun p hp => ?_⟩
  by_cases hpn : p = n
  ·subst hpn; omega
  ·have := h2 p (by omega); omega
theorem unit_n {R : Nat} {l : List TDyadic} (h : UnitV R l) {p : Nat} (hp : p < R) : nR (vC l p) ≤ 1 * 2 ^ 60 := by
 have := (sum_A R (vC l)).2 p hp
 rw [show eSum R (fun p => aSq (vC l p) (vC l p)) = rIt 120 rOne' from h, one_120A] at this
 omega
theorem w_root (x : TRing) : rRoot (wR x) = wR (rRoot x) := by
 show TRing.mk (x.A - x.C) (-x.D + x.B) (x.A + x.C) (x.B - -x.D) = TRing.mk (-(x.C - x.A)) (x.B - x.D) (x.A + x.C) (x.B + x.D)
 rw [TRing.mk.injEq]
 omega
theorem w_it : ∀ (k : Nat) (x : TRing), rIt k (wR x) = wR (rIt k x)
 | 0, _ => rfl
 | k + 1, x => by
  show rIt k (rRoot (wR x)) = wR (rIt k (rRoot x))
  rw [w_root, w_it k]
theorem turn_it (k : Nat) : ∀ (m : Nat) (x : TRing), rIt k (turnR x m) = turnR (rIt k x) m
 | 0, _ => rfl
 | m + 1, x => by
  show rIt k (turnR (wR x) m) = turnR (wR (rIt k x)) m
  rw [turn_it k m, w_it]
theorem w_mul (x y : TRing) : eMul (wR x) y = wR (eMul x y) := by
 unfold eMul wR
 simp only [TRing.mk.injEq]
 refine ⟨?_, ?_, ?_, ?_⟩ <;> grind
theorem turn_mul : ∀ (m : Nat) (x y : TRing), eMul (turnR x m) y = turnR (eMul x y) m
 | 0, _, _ => rfl
 | m + 1, x, y => by
  show eMul (turnR (wR x) m) y = turnR (wR (eMul x y)) m
  rw [turn_mul m, w_mul]
theorem w_sq (x : TRing) : aSq (wR x) (wR x) = aSq x x := by
 unfold aSq eMul wR rConj
 simp only [TRing.mk.injEq]
 refine ⟨?_, ?_, ?_, ?_⟩ <;> grind
theorem turn_sq : ∀ (m : Nat) (x : TRing), aSq (turnR x m) (turnR x m) = aSq x x
 | 0, _ => rfl
 | m + 1, x => by
  show aSq (turnR (wR x) m) (turnR (wR x) m) = _
  rw [turn_sq m, w_sq]
theorem turn_n (m : Nat) (x : TRing) : nR (turnR x m) = nR x := by rw [← aSq_A, turn_sq, aSq_A]
theorem tw_v (m : Nat) (x : TDyadic) : vOf (tw m x) = turnR (vOf x) m := turn_it _ _ _
theorem ng_it : ∀ (k : Nat) (x : TRing), rIt k (rNg x) = rNg (rIt k x)
 | 0, _ => rfl
 | k + 1, x => by
  show rIt k (rRoot (rNg x)) = rNg (rIt k (rRoot x))
  rw [neg_root, ng_it k]
theorem ngv (x : TDyadic) : vOf (dNeg x) = rNg (vOf x) := ng_it _ _
theorem nR_ng (x : TRing) : nR (rNg x) = nR x := by unfold nR rNg; simp only; grind
theorem sq_pm (a b : TRing) : rPlus (aSq (rPlus a b) (rPlus a b)) (aSq (rPlus a (rNg b)) (rPlus a (rNg b))) = rPlus (rIt 2 (aSq a a)) (rIt 2 (aSq b b)) := by
 have two : ∀ x : TRing, rIt 2 x = TRing.mk (2 * x.A) (2 * x.B) (2 * x.C) (2 * x.D) := fun x => by
  show rRoot (rRoot x) = _
  unfold rRoot
  simp only [TRing.mk.injEq]; omega
 rw [two, two]
 unfold aSq eMul rPlus rConj rNg
 simp only [TRing.mk.injEq]
 refine ⟨?_, ?_, ?_, ?_⟩ <;> grind
def hD : TDyadic := TDyadic.mk (TRing.mk 1 0 0 0) 1
theorem hD_bd : Bd 1 1 hD := by unfold Bd; decide +kernel
theorem hD_v (x : TRing) : eMul (vOf hD) x = rIt 59 x := by
 show eMul (rIt 59 rOne') x = _
 rw [it_mul, one_mul']
theorem bd_tw {e : Nat} {K : Int} {x : TDyadic} (h : Bd e K x) (m : Nat) : Bd e K (tw m x) := ⟨tw_ok h.1, h.2.1, by rw [tw_v, turn_n]; exact h.2.2⟩
theorem bd_ng {e : Nat} {K : Int} {x : TDyadic} (h : Bd e K x) : Bd e K (dNeg x) := ⟨neg_dok h.1, h.2.1, by rw [ngv, nR_ng]; exact h.2.2⟩
/-- Half the sum, times the root of two. -/
def hS (x y : TDyadic) : TDyadic := ((DA x y).bind fun s => DM hD s).getD dZero
theorem hs_all {e : Nat} (he : e ≤ 30) {x y : TDyadic} (hx : Bd e 1 x) (hy : Bd e 1 y) : ∃ s, DA x y = some s ∧ DM hD s = some (hS x y) ∧ dOk s = true ∧ dOk (hS x y) = true ∧ rIt 1 (vOf (hS x y)) = rPlus (vOf x) (vOf y) := by
 have hp : (2 : Int) ^ e ≤ 2 ^ 30 := p2_le he
 have hp0 := p2_pos e
 obtain ⟨s, h0, b0⟩ := DA_bd hx hy (by omega) (by decide) (by decide) (by generalize (2 : Int) ^ e = q at *; omega)
 obtain ⟨z, h1, b1⟩ := DM_bd hD_bd b0 (by omega) (by decide) (by decide) (by generalize (2 : Int) ^ e = q at *; omega)
 have e1 : hS x y = z := by unfold hS; rw [h0, Option.bind_some, h1]; rfl
 rw [e1]
 refine ⟨s, h0, h1, b0.1, b1.1, it_inj 59 ?_⟩
 have := v_mul hD_bd.1 b0.1 h1
 rw [hD_v, da_val hx.1 hy.1 h0] at this
 rw [← rIt_add]
 exact this
def stL (l : List TDyadic) (i j m : Nat) : List TDyadic := (l.set i (hS (l.getD i dZero) (tw m (l.getD j dZero)))).set j (hS (l.getD i dZero) (dNeg (tw m (l.getD j dZero))))
theorem st_len (l : List TDyadic) (i j m : Nat) : (stL l i j m).length = l.length := by unfold stL; simp
theorem st_get {l : List TDyadic} {i j m : Nat} (hij : i ≠ j) (hi : i < l.length) (hj : j < l.length) (p : Nat) : (stL l i j m).getD p dZero = if p = j then hS (l.getD i dZero) (dNeg (tw m (l.getD j dZero))) else if p = i then hS (l.getD i dZero) (tw m (l.getD j dZero)) else l.getD p dZero := by
 unfold stL
 rw [List.getD_eq_getElem?_getD]
 by_cases h1 : p = j
 ·subst h1
  rw [if_pos rfl, List.getElem?_set_self (by simpa using hj)]; rfl
 ·rw [if_neg h1, List.getElem?_set_ne (fun h => h1 h.symm)]
  by_cases h2 : p = i
  ·subst h2
   rw [if_pos rfl, List.getElem?_set_self hi]; rfl
  ·rw [if_neg h2, List.getElem?_set_ne (fun h => h2 h.symm), ← List.getD_eq_getElem?_getD]
/-- The column's state: R cells, unit, exponents k at most. -/
structure ColS (R : Nat) (k : Int) (l : List TDyadic) : Prop where
 len : l.length = R
 ok : okD l
 unit : UnitV R l
 exp : ∀ x ∈ l, x.Exp ≤ k
theorem ColS.bd {R : Nat} {k : Int} {l : List TDyadic} (h : ColS R k l) (hk : 0 ≤ k ∧ k ≤ 30) (p : Nat) : Bd k.toNat 1 (l.getD p dZero) := by
 by_cases hp : p < l.length
 ·refine ⟨getD_ok h.ok p, ?_, unit_n h.unit (by rw [← h.len]; exact hp)⟩
  rw [List.getD_eq_getElem?_getD, List.getElem?_eq_getElem hp]
  have := h.exp _ (List.getElem_mem hp)
  show l[p].Exp ≤ _
  omega
 ·rw [List.getD_eq_getElem?_getD, List.getElem?_eq_none (by omega)]
  exact bd_zero _ (by decide)
theorem ColS.cb {R : Nat} {k : Int} {l : List TDyadic} (h : ColS R k l) : ∀ x ∈ l, cB1 k x := fun x hx => by
 obtain ⟨p, hp, rfl⟩ := List.mem_iff_getElem.1 hx
 have hu := unit_n h.unit (p := p) (by rw [← h.len]; exact hp)
 unfold vC at hu
 rw [List.getD_eq_getElem?_getD, List.getElem?_eq_getElem hp] at hu
 exact ⟨h.ok _ hx, h.exp _ hx, hu⟩
theorem low_exp {z : TDyadic} (hz : dOk z = true) {f : Int} (hf : 0 ≤ f ∧ f ≤ 60) {Z : TRing} (h : vOf z = rIt (60 - f).toNat Z) : z.Exp ≤ f := by
 obtain ⟨z1, z2, z3⟩ := d_parts hz
 by_cases hle : z.Exp ≤ f
 ·exact hle
 exfalso
 unfold vOf at h
 rw [show (60 - f).toNat = (60 - z.Exp).toNat + (1 + (z.Exp - f - 1).toNat) by omega, rIt_add, rIt_add] at h
 have h := it_inj _ h
 have h : z.Num = rRoot (rIt (z.Exp - f - 1).toNat Z) := h
 have hev : rEven z.Num = true := by
  rw [h] at z1 ⊢
  exact root_even z1
 unfold dOk at hz
 simp only [Bool.and_eq_true, Bool.or_eq_true, beq_iff_eq, hev, Bool.not_true] at hz
 rcases hz.2 with h2 | h2
 ·omega
 ·cases h2
theorem eSum_pair {f g : Nat → TRing} {i j : Nat} (hij : i ≠ j) : ∀ {n : Nat}, i < n → j < n → (∀ p, p < n → p ≠ i → p ≠ j → g p = f p) → rPlus (f i) (f j) = rPlus (g i) (g j) → eSum n g = eSum n f := fun {n} hi hj hp he => by
 have key : ∀ (u : Nat → TRing), ∀ n, i < n → j < n → eSum n u = rPlus (eSum n (fun p => if p = i ∨ p = j then rZero else u p)) (rPlus (u i) (u j)) := fun u n hi hj => by
  have e : eSum n u = rPlus (eSum n (fun p => if p = i ∨ p = j then rZero else u p)) (eSum n (fun p => if p = i ∨ p = j then u p else rZero)) := by
   rw [← eSum_plus]
   refine eSum_congr fun p _ => ?_
   by_cases h : p = i ∨ p = j
   ·rw [if_pos h, if_pos h, zero_plus]
   ·rw [if_neg h, if_neg h, plus_zero]
  rw [e, eSum_two (f := fun p => if p = i ∨ p = j then u p else rZero) hi hj hij (fun k _ h1 h2 => if_neg (by rintro (h | h); exact h1 h; exact h2 h)), if_pos (.inl rfl), if_pos (.inr rfl)]
 rw [key g n hi hj, key f n hi hj, he]
 congr 1
 refine eSum_congr fun p hpn => ?_
 by_cases h : p = i ∨ p = j
 ·rw [if_pos h, if_pos h]
 ·rw [if_neg h, if_neg h]
  exact hp p hpn (fun e => h (.inl e)) (fun e => h (.inr e))
set_option linter.unusedSectionVars false
section
variable {R : Nat} {k : Int} {l : List TDyadic} (h : ColS R k l) (hk : 1 ≤ k ∧ k ≤ 30) {i j m : Nat} (hij : i < j) (hj : j < R) (hm : m < 8)
include h hk hij hj hm
theorem st_vals : rIt 1 (vC (stL l i j m) i) = rPlus (vC l i) (turnR (vC l j) m) ∧ rIt 1 (vC (stL l i j m) j) = rPlus (vC l i) (rNg (turnR (vC l j) m)) ∧ ∀ p, p ≠ i → p ≠ j → (stL l i j m).getD p dZero = l.getD p dZero := by
 have hl := h.len
 have bi := h.bd ⟨by omega, hk.2⟩ i
 have bj := bd_tw (h.bd ⟨by omega, hk.2⟩ j) m
 obtain ⟨_, _, _, _, _, e1⟩ := hs_all (by omega) bi bj
 obtain ⟨_, _, _, _, _, e2⟩ := hs_all (by omega) bi (bd_ng bj)
 rw [tw_v] at e1
 rw [ngv, tw_v] at e2
 have g := st_get (l := l) (i := i) (j := j) (m := m) (by omega) (by omega) (by omega)
 refine ⟨?_, ?_, fun p hpi hpj => by rw [g p, if_neg hpj, if_neg hpi]⟩
 ·unfold vC
  rw [g i, if_neg (by omega), if_pos rfl]; exact e1
 ·unfold vC
  rw [g j, if_pos rfl]; exact e2
theorem st_ok : okD (stL l i j m) := fun z hz => by
 have hl := h.len
 have bi := h.bd ⟨by omega, hk.2⟩ i
 have bj := bd_tw (h.bd ⟨by omega, hk.2⟩ j) m
 obtain ⟨_, _, _, _, o1, _⟩ := hs_all (by omega) bi bj
 obtain ⟨_, _, _, _, o2, _⟩ := hs_all (by omega) bi (bd_ng bj)
 obtain ⟨p, hp, rfl⟩ := List.mem_iff_getElem.1 hz
 have g := st_get (l := l) (i := i) (j := j) (m := m) (by omega) (by omega) (by omega) p
 rw [List.getD_eq_getElem?_getD, List.getElem?_eq_getElem hp] at g
 have g : (stL l i j m)[p] = _ := g
 rw [g]
 split
 ·exact o2
 ·split
  ·exact o1
  ·exact getD_ok h.ok p
theorem st_unit : UnitV R (stL l i j m) := by
 obtain ⟨e1, e2, e3⟩ := st_vals h hk hij hj hm
 unfold UnitV
 rw [← h.unit]
 refine eSum_pair (i := i) (j := j) (by omega) (by omega) hj (fun p _ h1 h2 => by unfold vC; rw [e3 p h1 h2]) (it_inj 2 ?_)
 rw [rIt_plus, rIt_plus]
 have a1 : rIt 2 (aSq (vC (stL l i j m) i) (vC (stL l i j m) i)) = aSq (rIt 1 (vC (stL l i j m) i)) (rIt 1 (vC (stL l i j m) i)) := (aSq_it 1 1 _ _).symm
 have a2 : rIt 2 (aSq (vC (stL l i j m) j) (vC (stL l i j m) j)) = aSq (rIt 1 (vC (stL l i j m) j)) (rIt 1 (vC (stL l i j m) j)) := (aSq_it 1 1 _ _).symm
 rw [a1, a2, e1, e2, sq_pm, turn_sq]
/-- The cells at level k, behind the step. -/
theorem st_lvl : rIt 1 (vC (stL l i j m) i) = rIt (60 - k).toNat (sumT (lvl k (l.getD i dZero)) (lvl k (l.getD j dZero)) m) ∧ rIt 1 (vC (stL l i j m) j) = rIt (60 - k).toNat (rPlus (lvl k (l.getD i dZero)) (rNg (turnR (lvl k (l.getD j dZero)) m))) := by
 obtain ⟨e1, e2, _⟩ := st_vals h hk hij hj hm
 have bi := h.bd ⟨by omega, hk.2⟩ i
 have bj := h.bd ⟨by omega, hk.2⟩ j
 have v1 : vC l i = _ := lvl_v (k := k) bi.1 (by have := bi.2.1; omega) (by omega)
 have v2 : vC l j = _ := lvl_v (k := k) bj.1 (by have := bj.2.1; omega) (by omega)
 rw [e1, e2, v1, v2]
 unfold sumT
 rw [rIt_plus, rIt_plus, ng_it, turn_it]
 exact ⟨rfl, rfl⟩
end

def wtT (t : Int) : Nat := if t = 1 then 2 else if t = 2 then 1 else 0
theorem wt_le (t : Int) : wtT t ≤ 2 := by unfold wtT; split <;> (try split) <;> omega
def nSum (n : Nat) (f : Nat → Nat) : Nat := match n with | 0 => 0 | n + 1 => nSum n f + f n
theorem nSum_le {f : Nat → Nat} : ∀ n, (∀ p, p < n → f p ≤ 2) → nSum n f ≤ 2 * n
 | 0, _ => Nat.le_refl _
 | n + 1, h => by
  have h1 := nSum_le n (fun p hp => h p (by omega))
  have h2 := h n (by omega)
  show nSum n f + f n ≤ _
  omega
theorem nSum_two {f g : Nat → Nat} {i j : Nat} (hij : i < j) : ∀ n, (∀ p, p ≠ i → p ≠ j → g p = f p) → nSum n g + (if i < n then f i else 0) + (if j < n then f j else 0) = nSum n f + (if i < n then g i else 0) + (if j < n then g j else 0)
 | 0, _ => by simp [nSum]
 | n + 1, h => by
  have ih := nSum_two hij n h
  show nSum n g + g n + _ + _ = nSum n f + f n + _ + _
  by_cases h1 : n = i
  ·subst h1
   rw [if_neg (by omega), if_neg (by omega), if_neg (by omega), if_neg (by omega)] at ih
   rw [if_pos (by omega), if_neg (by omega), if_pos (by omega), if_neg (by omega)]
   omega
  ·by_cases h2 : n = j
   ·subst h2
    rw [if_pos hij, if_neg (by omega), if_pos hij, if_neg (by omega)] at ih
    rw [if_pos (by omega), if_pos (by omega), if_pos (by omega), if_pos (by omega)]
    omega
   ·rw [h n h1 h2]
    have e1 : (i < n + 1) = (i < n) := by rw [eq_iff_iff]; omega
    have e2 : (j < n + 1) = (j < n) := by rw [eq_iff_iff]; omega
    simp only [e1, e2]
    omega
def muL (R : Nat) (k : Int) (l : List TDyadic) : Nat := nSum R (fun p => wtT (tyI (lvl k (l.getD p dZero))))
def meaL (R : Nat) (l : List TDyadic) : Nat := 17 * (mxL l).toNat + muL R (mxL l) l
theorem ty_root (w : TRing) : tyI (rRoot w) = 0 := by
 unfold tyI rRoot
 simp only
 rw [if_pos (by omega)]
/-- A number of smaller exponent is even at level k. -/
theorem ty_low {k : Int} {x : TDyadic} (h : x.Exp ≤ k - 1) : tyI (lvl k x) = 0 := by
 unfold lvl
 rw [show (k - x.Exp).toNat = 1 + (k - x.Exp - 1).toNat by omega, rIt_add]
 exact ty_root _
def hfR (s : TRing) : TRing := TRing.mk ((s.B - s.D) / 2) ((s.A + s.C) / 2) ((s.B + s.D) / 2) ((s.C - s.A) / 2)
theorem hf_root {s : TRing} (h1 : (2 : Int) ∣ s.A + s.C) (h2 : (2 : Int) ∣ s.B + s.D) : rRoot (hfR s) = s := by
 obtain ⟨A, B, C, D⟩ := s
 unfold rRoot hfR
 simp only [TRing.mk.injEq] at *
 omega
theorem hf_ty {s : TRing} (h : alO s = true) : tyI (hfR s) = 2 := by
 unfold alO at h
 simp only [Bool.and_eq_true, Bool.not_eq_true', decide_eq_false_iff_not] at h
 obtain ⟨⟨⟨h1, h2⟩, h3⟩, h4⟩ := h
 unfold tyI hfR
 simp only
 rw [if_neg (by omega), if_pos (by omega)]
theorem ev_two {s : TRing} (h : alE s = true) : ∃ Z, s = rIt 2 Z := by
 unfold alE at h
 simp only [Bool.and_eq_true, decide_eq_true_eq] at h
 refine ⟨TRing.mk (s.A / 2) (s.B / 2) (s.C / 2) (s.D / 2), ?_⟩
 show s = rRoot (rRoot _)
 obtain ⟨A, B, C, D⟩ := s
 unfold rRoot
 simp only [TRing.mk.injEq] at *
 omega
/-- From the value at level k to the cell: even. -/
theorem cell_ev {k : Int} (hk : 1 ≤ k ∧ k ≤ 30) {z : TDyadic} (hz : dOk z = true) {s : TRing} (h : rIt 1 (vOf z) = rIt (60 - k).toNat s) (he : alE s = true) : z.Exp ≤ k - 1 := by
 obtain ⟨Z, rfl⟩ := ev_two he
 refine low_exp hz (f := k - 1) ⟨by omega, by omega⟩ (Z := Z) (it_inj 1 ?_)
 rw [h, ← rIt_add, ← rIt_add]
 congr 1; omega
/-- .. odd. -/
theorem cell_od {k : Int} (hk : 1 ≤ k ∧ k ≤ 30) {z : TDyadic} (hz : dOk z = true) {s : TRing} (h : rIt 1 (vOf z) = rIt (60 - k).toNat s) (ho : alO s = true) : z.Exp ≤ k ∧ tyI (lvl k z) = 2 := by
 have hr : rRoot (hfR s) = s := by
  unfold alO at ho
  simp only [Bool.and_eq_true, Bool.not_eq_true', decide_eq_false_iff_not] at ho
  exact hf_root (by omega) (by omega)
 have hv : vOf z = rIt (60 - k).toNat (hfR s) := it_inj 1 (by
  rw [h, ← rIt_add, Nat.add_comm, rIt_add]
  show rIt (60 - k).toNat s = rIt (60 - k).toNat (rRoot (hfR s))
  rw [hr])
 have he := low_exp hz (f := k) ⟨by omega, by omega⟩ hv
 refine ⟨he, ?_⟩
 rw [lvl_v hz he (by omega)] at hv
 rw [it_inj _ hv]
 exact hf_ty ho
theorem al_less {a b : TRing} : alE (rPlus a b) = alE (rPlus a (rNg b)) ∧ alO (rPlus a b) = alO (rPlus a (rNg b)) := by
 have key : ∀ x y : Int, decide ((2 : Int) ∣ x + y) = decide ((2 : Int) ∣ x + -y) := fun x y => by rw [decide_eq_decide]; omega
 unfold alE alO rPlus rNg
 simp only
 rw [key a.A b.A, key a.B b.B, key a.C b.C, key a.D b.D]
 exact ⟨rfl, rfl⟩
section
variable {R : Nat} {k : Int} {l : List TDyadic} (h : ColS R k l) (hk : 1 ≤ k ∧ k ≤ 30) {i j m : Nat} (hij : i < j) (hj : j < R) (hm : m < 8)
include h hk hij hj hm
theorem st_types (hp : pwB (lvl k (l.getD i dZero)) (lvl k (l.getD j dZero)) m = true) : ((stL l i j m).getD i dZero).Exp ≤ k ∧ ((stL l i j m).getD j dZero).Exp ≤ k ∧
  ((tyI (lvl k ((stL l i j m).getD i dZero)) = 0 ∧ tyI (lvl k ((stL l i j m).getD j dZero)) = 0) ∨ (tyI (lvl k (l.getD i dZero)) = 1 ∧ tyI (lvl k ((stL l i j m).getD i dZero)) = 2 ∧ tyI (lvl k ((stL l i j m).getD j dZero)) = 2)) := by
 obtain ⟨e1, e2⟩ := st_lvl h hk hij hj hm
 have oi := getD_ok (st_ok h hk hij hj hm) i
 have oj := getD_ok (st_ok h hk hij hj hm) j
 obtain ⟨q1, q2⟩ := al_less (a := lvl k (l.getD i dZero)) (b := turnR (lvl k (l.getD j dZero)) m)
 unfold pwB at hp
 rcases Bool.or_eq_true_iff.1 hp with hE | hO
 ·have c1 := cell_ev hk oi e1 hE
  have c2 := cell_ev hk oj e2 (by rw [← q1]; exact hE)
  exact ⟨by omega, by omega, .inl ⟨ty_low c1, ty_low c2⟩⟩
 ·simp only [Bool.and_eq_true, beq_iff_eq] at hO
  obtain ⟨c1, t1⟩ := cell_od hk oi e1 hO.1
  obtain ⟨c2, t2⟩ := cell_od hk oj e2 (by rw [← q2]; exact hO.1)
  exact ⟨c1, c2, .inr ⟨hO.2, t1, t2⟩⟩
theorem st_col (hp : pwB (lvl k (l.getD i dZero)) (lvl k (l.getD j dZero)) m = true) : ColS R k (stL l i j m) := by
 obtain ⟨c1, c2, _⟩ := st_types h hk hij hj hm hp
 refine ⟨by rw [st_len, h.len], st_ok h hk hij hj hm, st_unit h hk hij hj hm, fun x hx => ?_⟩
 obtain ⟨p, hpp, rfl⟩ := List.mem_iff_getElem.1 hx
 have hpl : p < l.length := by rw [st_len] at hpp; exact hpp
 have e : (stL l i j m)[p] = (stL l i j m).getD p dZero := by rw [List.getD_eq_getElem?_getD, List.getElem?_eq_getElem hpp]; rfl
 rw [e]
 by_cases h1 : p = i
 ·subst h1; exact c1
 ·by_cases h2 : p = j
  ·subst h2; exact c2
  ·rw [(st_vals h hk hij hj hm).2.2 p h1 h2, List.getD_eq_getElem?_getD, List.getElem?_eq_getElem hpl]
   exact h.exp _ (List.getElem_mem hpl)
theorem st_mu (hp : pwB (lvl k (l.getD i dZero)) (lvl k (l.getD j dZero)) m = true) (ht : tyI (lvl k (l.getD i dZero)) = tyI (lvl k (l.getD j dZero))) (h12 : tyI (lvl k (l.getD i dZero)) = 1 ∨ tyI (lvl k (l.getD i dZero)) = 2) : muL R k (stL l i j m) < muL R k l := by
 obtain ⟨_, _, hT⟩ := st_types h hk hij hj hm hp
 have hs := nSum_two (f := fun p => wtT (tyI (lvl k (l.getD p dZero)))) (g := fun p => wtT (tyI (lvl k ((stL l i j m).getD p dZero)))) hij R (fun p h1 h2 => by rw [(st_vals h hk hij hj hm).2.2 p h1 h2])
 rw [if_pos (by omega), if_pos hj, if_pos (by omega), if_pos hj] at hs
 unfold muL
 have hi : 1 ≤ wtT (tyI (lvl k (l.getD i dZero))) := by rcases h12 with h | h <;> rw [h] <;> decide
 rcases hT with ⟨t1, t2⟩ | ⟨t0, t1, t2⟩
 ·rw [t1, t2] at hs
  have e0 : wtT 0 = 0 := rfl
  omega
 ·rw [t1, t2, ← ht, t0] at hs
  have e2 : wtT 2 = 1 := rfl
  have e1 : wtT 1 = 2 := rfl
  omega
end
/-- Where a step is found it makes the measure smaller. -/
theorem step_all {R : Nat} (hR : R ≤ 8) {l : List TDyadic} (h : ColS R 30 l) (h0 : 0 < mxL l) {t : TTwoLevel} (ht : nxT (lvT (mxL l) l) = some t) : ∃ i j m : Nat, t = TTwoLevel.mk 3 (i : Int) (j : Int) (m : Int) ∧ i < j ∧ j < R ∧ m < 8 ∧ ColS R (mxL l) l ∧ 1 ≤ mxL l ∧ mxL l ≤ 30 ∧ ColS R 30 (stL l i j m) ∧ meaL R (stL l i j m) < meaL R l := by
 have hk30 : mxL l ≤ 30 := mx_lt (by decide) h.exp
 have hc : ColS R (mxL l) l := ⟨h.len, h.ok, h.unit, fun x hx => mx_le hx⟩
 obtain ⟨i, j, m, e, hn, hij, hj, hm, hp⟩ := nx_get ht
 obtain ⟨_, _, g3, g4⟩ := next_get hn
 have hlen : (lvT (mxL l) l).length = R := by unfold lvT; rw [List.length_map, h.len]
 have gd : ∀ p, p < R → (lvT (mxL l) l).getD p rZero = lvl (mxL l) (l.getD p dZero) := fun p hp => by
  unfold lvT
  rw [List.getD_eq_getElem?_getD, List.getElem?_map, List.getD_eq_getElem?_getD, List.getElem?_eq_getElem (by rw [h.len]; exact hp)]
  rfl
 have hjR : j < R := by omega
 rw [gd i (by omega), gd j hjR] at g3 hp
 rw [gd i (by omega)] at g4
 have hk : 1 ≤ mxL l ∧ mxL l ≤ 30 := ⟨by omega, hk30⟩
 have hpB := (pw_lt hp).2
 have hs := st_col hc hk hij hjR hm hpB
 have hmu := st_mu hc hk hij hjR hm hpB g3 g4
 refine ⟨i, j, m, e, hij, hjR, hm, hc, hk.1, hk.2, ⟨hs.len, hs.ok, hs.unit, fun x hx => by have := hs.exp x hx; omega⟩, ?_⟩
 have hle : mxL (stL l i j m) ≤ mxL l := mx_lt (by omega) hs.exp
 have hnn := mx_nn (stL l i j m)
 unfold meaL
 by_cases he : mxL (stL l i j m) = mxL l
 ·rw [he]; omega
 ·have hb : muL R (mxL (stL l i j m)) (stL l i j m) ≤ 2 * R := nSum_le R (fun p _ => wt_le _)
  omega
def LvN (R : Nat) : Prop := R = 2 ∨ R = 4 ∨ R = 8
theorem lvn_dim {R : Nat} (h : LvN R) : dimB R = true := by rcases h with rfl | rfl | rfl <;> decide
theorem lvn_le {R : Nat} (h : LvN R) : 2 ≤ R ∧ R ≤ 8 := by rcases h with rfl | rfl | rfl <;> omega
theorem lvn_impl {R : Nat} (h : LvN R) : F_impl_isLevelDim R = some true := by rcases h with rfl | rfl | rfl <;> decide
theorem vz : vOf dZero = rZero := by unfold vOf; exact it_z _
theorem vone : vOf dOne = rIt 60 rOne' := rfl
theorem turn_four (x : TRing) (m : Nat) : turnR x (m + 4) = rNg (turnR x m) := by
 have h : ∀ (m : Nat) (y : TRing), turnR (rNg y) m = rNg (turnR y m) := by
  intro m
  induction m with
  | zero => intro y; rfl
  | succ m ih => intro y; exact ih (wR y)
 exact h m x
theorem lc_small : ∀ m : Fin 8, F_impl_phase (m.val : Int) = some (phD m.val) ∧ F_impl_MulDyadic hD (phD m.val) = some (tw m.val hD, true) ∧ F_impl_phase (IntKind.i64.wrap ((m.val : Int) + 4)) = some (phD ((m.val : Int) + 4)) ∧ F_impl_MulDyadic hD (phD ((m.val : Int) + 4)) = some (tw (m.val + 4) hD, true) := by decide +kernel
def tlC (i j m a b : Nat) : TDyadic := if (a = i ∨ a = j) ∧ (b = i ∨ b = j) then (if b = i then hD else if a = i then tw m hD else tw (m + 4) hD) else if a = b then dOne else dZero
theorem lc_im {i j m : Nat} (hm : m < 8) (a b : Nat) : F_impl_levelCell (TTwoLevel.mk 3 (i : Int) (j : Int) (m : Int)) a b = some (tlC i j m a b) := by
 obtain ⟨h1, h2, h3, h4⟩ := lc_small ⟨m, hm⟩
 simp only at h1 h2 h3 h4
 unfold F_impl_levelCell
 simp only [h1, h3, Option.bind_some]
 rw [show TDyadic.mk (TRing.mk 1 0 0 0) 1 = hD from rfl, h2, h4]
 simp only [Option.bind_some, ibeq, show ((3 : Int) == 1) = false from rfl, show ((3 : Int) == 2) = false from rfl, show ((3 : Int) == 3) = true from rfl, show ((3 : Int) != 1) = true from rfl, Bool.false_and, Bool.true_and, cond_false]
 unfold tlC F_impl_small F_impl_whole
 simp only [← bif_dec, Bool.decide_and, Bool.decide_or]
 generalize decide (a = i) = p
 generalize decide (a = j) = q
 generalize decide (b = i) = r
 generalize decide (b = j) = s
 generalize decide (a = b) = t
 cases p <;> cases q <;> cases r <;> cases s <;> cases t <;> rfl
theorem tlC_ok {i j m : Nat} (a b : Nat) : Bd 1 1 (tlC i j m a b) := by
 have h1 : Bd 1 1 dOne := by unfold Bd; decide +kernel
 unfold tlC
 split
 ·split
  ·exact hD_bd
  ·split
   ·exact bd_tw hD_bd _
   ·exact bd_tw hD_bd _
 ·split
  ·exact h1
  ·exact bd_zero 1 (by decide)
def tlL (R i j m : Nat) : List TDyadic := (gridO (fun a b => some (tlC i j m a b)) R R).getD []
theorem tl_all (R i j m : Nat) : gridO (fun a b => some (tlC i j m a b)) R R = some (tlL R i j m) ∧ okD (tlL R i j m) ∧ (tlL R i j m).length = R * R ∧ ∀ a b, a < R → b < R → (tlL R i j m).getD (a * R + b) dZero = tlC i j m a b := by
 obtain ⟨l, h1, h2, h3⟩ := grid_pure (f := fun a b => tlC i j m a b) R R (fun a b _ _ => (tlC_ok a b).1)
 have e : tlL R i j m = l := by unfold tlL; rw [h1]; rfl
 rw [e]
 exact ⟨h1, h2, h3, fun a b ha hb => (Option.some.inj ((grid_get h1).2 a b ha hb)).symm⟩
theorem tl_valid {R i j m : Nat} (hR : LvN R) (hij : i < j) (hj : j < R) (hm : m < 8) : F_impl_IsValidTwoLevel R (TTwoLevel.mk 3 (i : Int) (j : Int) (m : Int)) = some true := by
 have := lvn_le hR
 unfold F_impl_IsValidTwoLevel F_impl_within
 rw [lvn_impl hR]
 simp only [Option.bind_some, Bool.not_true, Bool.not_false, gb, cond_true]
 rw [wr (a := (R : Int) - 1) (by omega), wr (a := (i : Int) + 1) (by omega), decide_eq_true (show (0 : Int) ≤ (i : Int) by omega), decide_eq_true (show (i : Int) ≤ (R : Int) - 1 by omega), decide_eq_true (show (i : Int) + 1 ≤ (j : Int) by omega), decide_eq_true (show (j : Int) ≤ (R : Int) - 1 by omega), decide_eq_true (show (0 : Int) ≤ (m : Int) by omega), decide_eq_true (show (m : Int) ≤ 7 by omega)]
 rfl
theorem tl_impl {R i j m : Nat} (hR : LvN R) (hij : i < j) (hj : j < R) (hm : m < 8) : F_impl_TwoLevelMatrix R (TTwoLevel.mk 3 (i : Int) (j : Int) (m : Int)) = some (TMatrix.mk R R (tlL R i j m), true) := by
 have hle := lvn_le hR
 obtain ⟨h1, h2⟩ := im_matrixOf (cell := fun x_0 x_1 => F_impl_TwoLevelMatrix_1 x_0 x_1 (TTwoLevel.mk 3 (i : Int) (j : Int) (m : Int))) (cellO := fun a b => some (tlC i j m a b)) (lvn_dim hR) (lvn_dim hR) (by omega) (by omega) (fun a b ha hb => ⟨by
  unfold F_impl_TwoLevelMatrix_1
  rw [lc_im hm]; rfl, fun z hz => by cases hz; exact (tlC_ok a b).1⟩)
 unfold F_impl_TwoLevelMatrix
 rw [tl_valid hR hij hj hm]
 simp only [Option.bind_some, Bool.not_true, cond_false]
 rw [h1, (tl_all R i j m).1]
 rfl
theorem dot_big {X Y : Nat → TDyadic} {K : Nat} (hK : K ≤ 8) (hX : ∀ k, k < K → Bd 1 1 (X k)) (hY : ∀ k, k < K → Bd 30 1 (Y k)) : ∃ z, forN (dotS X Y) K 0 dZero = some z := by
 obtain ⟨z, h, _⟩ := forN_inv (f := dotS X Y) (fun k z => Bd 31 (2 ^ (k + 3) - 8) z) K 0 dZero (bd_zero 31 (by decide)) (fun k z _ hk hz => by
  obtain ⟨p, h0, b0⟩ := DM_bd (hX k (by omega)) (hY k (by omega)) (by decide) (by decide) (by decide) (by decide)
  have hp : (2 : Int) ^ (k + 3) ≤ 2 ^ 11 := p2_le (by omega)
  have hp8 : (2 : Int) ^ 3 ≤ 2 ^ (k + 3) := p2_le (by omega)
  have hs : (2 : Int) ^ (k + 1 + 3) = 2 ^ (k + 3) * 2 := Int.pow_succ 2 (k + 3)
  rw [hs]
  generalize (2 : Int) ^ (k + 3) = q at *
  obtain ⟨s, g0, d0⟩ := DA_bd hz (b0.mono (f := 31) (L := 4) (by decide) (by decide)) (by decide) (by omega) (by decide) (by omega)
  refine ⟨s, by unfold dotS; rw [h0, Option.bind_some, g0], ?_⟩
  exact d0.mono (Nat.le_refl _) (by omega))
 exact ⟨z, h⟩
theorem grid_totC {cell : Nat → Nat → Option TDyadic} {R C : Nat} (h : ∀ i j, i < R → j < C → ∃ z, cell i j = some z) : ∃ l, gridO cell R C = some l := by
 obtain ⟨l, h1, _⟩ := forN_inv (f := fun i l => forN (fun j l => (cell i j).bind fun z => some (l ++ [z])) C 0 l) (fun _ _ => True) R 0 [] trivial (fun i s _ hi _ => by
  obtain ⟨l, h1, _⟩ := forN_inv (f := fun j l => (cell i j).bind fun z => some (l ++ [z])) (fun _ _ => True) C 0 s trivial (fun j s _ hj _ => by
   obtain ⟨z, hz⟩ := h i j (by omega) (by omega)
   exact ⟨_, by rw [hz]; rfl, trivial⟩)
  exact ⟨l, h1, trivial⟩)
 exact ⟨l, h1⟩
section
variable {R : Nat} {k : Int} {l : List TDyadic} (hR : LvN R) (h : ColS R k l) (hk : 1 ≤ k ∧ k ≤ 30) {i j m : Nat} (hij : i < j) (hj : j < R) (hm : m < 8)
include hR h hk hij hj hm
theorem mm_step : mmO (tlL R i j m) l R R 1 = some (stL l i j m) := by
 have hle := lvn_le hR
 obtain ⟨_, t2, t3, t4⟩ := tl_all R i j m
 obtain ⟨L, hL⟩ : ∃ L, mmO (tlL R i j m) l R R 1 = some L := by
  refine grid_totC fun a b ha hb => dot_big (by omega) (fun q hq => ?_) (fun q hq => ?_)
  ·rw [t4 a q ha hq]; exact tlC_ok a q
  ·exact (h.bd ⟨by omega, hk.2⟩ _).mono (by omega) (Int.le_refl _)
 obtain ⟨e1, e2, e3⟩ := mm_val t2 h.ok hL
 have hs := st_ok h hk hij hj hm
 obtain ⟨s1, s2, s3⟩ := st_vals h hk hij hj hm
 rw [hL]
 refine congrArg some (m_ext e1 (by rw [st_len, h.len, Nat.mul_one]) e2 hs fun a b ha hb => it_inj 60 ?_)
 obtain rfl : b = 0 := by omega
 rw [e3 a 0 ha hb]
 have ev : ∀ (L : List TDyadic) (q : Nat), vM L 1 q 0 = vC L q := fun L q => by
  unfold vM vC; rw [Nat.mul_one, Nat.add_zero]
 have et : ∀ q, q < R → vM (tlL R i j m) R a q = vOf (tlC i j m a q) := fun q hq => by unfold vM; rw [t4 a q ha hq]
 rw [ev, eSum_congr (g := fun q => eMul (vOf (tlC i j m a q)) (vC l q)) (fun q hq => by rw [et q hq, ev])]
 have hi : i < R := by omega
 by_cases a1 : a = i
 ·subst a1
  rw [eSum_two (s := a) (t := j) hi hj (by omega) (fun q _ q1 q2 => by
   unfold tlC
   rw [if_neg (by omega), if_neg (by omega), vz, zero_mul'])]
  unfold tlC
  rw [if_pos ⟨.inl rfl, .inl rfl⟩, if_pos rfl, if_pos ⟨.inl rfl, .inr rfl⟩, if_neg (by omega), if_pos rfl, hD_v, tw_v, turn_mul, hD_v, ← turn_it, ← rIt_plus, ← s1, ← rIt_add]
 ·by_cases a2 : a = j
  ·subst a2
   rw [eSum_two (s := i) (t := a) hi hj (by omega) (fun q _ q1 q2 => by
    unfold tlC
    rw [if_neg (by omega), if_neg (by omega), vz, zero_mul'])]
   unfold tlC
   rw [if_pos ⟨.inr rfl, .inl rfl⟩, if_pos rfl, if_pos ⟨.inr rfl, .inr rfl⟩, if_neg (by omega), if_neg (by omega), hD_v, tw_v, turn_mul, hD_v, turn_four, ← turn_it, ← ng_it, ← rIt_plus, ← s2, ← rIt_add]
  ·rw [eSum_one (s := a) ha (fun q _ q1 => by
    unfold tlC
    rw [if_neg (by omega), if_neg (by omega), vz, zero_mul'])]
   unfold tlC
   rw [if_neg (by omega), if_pos rfl, vone, it_mul, one_mul']
   unfold vC
   rw [s3 a a1 a2]
theorem mul_step : F_impl_MulMatrix (TMatrix.mk R R (tlL R i j m)) (TMatrix.mk R 1 l) = some (TMatrix.mk R 1 (stL l i j m), true) := by
 obtain ⟨_, t2, t3, _⟩ := tl_all R i j m
 have d1 : dimB ((1 : Nat) : Int) = true := by decide
 have := (im_mul (R := R) (K := R) (C := 1) (m_make (lvn_dim hR) (lvn_dim hR) t3 t2) (m_make (lvn_dim hR) d1 (by rw [h.len, Nat.mul_one]) h.ok)).1
 rw [mm_step hR h hk hij hj hm] at this
 exact this
end
theorem col_mok {R : Nat} {k : Int} {l : List TDyadic} (hR : LvN R) (h : ColS R k l) : mOk (TMatrix.mk R 1 l) = true :=
 m_make (C := 1) (lvn_dim hR) (by decide) (by rw [h.len, Nat.mul_one]) h.ok
/-- One round of the program's loop. -/
theorem round_impl {R : Nat} {l : List TDyadic} (hR : LvN R) (h : ColS R 30 l) (from_ : Int) {out : List TTwoLevel} (ho : out.length ≤ 1000) :
  (mxL l = 0 ∧ F_impl_ReduceColumn_l1 from_ (R, 1, l, out) = (F_impl_finishing (TMatrix.mk R 1 l) from_).bind fun p => bif (!p.2) then some (.rt ([], false)) else chk (out.length + p.1.length ≤ 1099511627776) <| some (.rt (out ++ p.1, true))) ∨
  (0 < mxL l ∧ nxT (lvT (mxL l) l) = none ∧ F_impl_ReduceColumn_l1 from_ (R, 1, l, out) = some (.rt ([], false))) ∨
  (0 < mxL l ∧ ∃ i j m : Nat, nxT (lvT (mxL l) l) = some (TTwoLevel.mk 3 i j m) ∧ i < j ∧ j < R ∧ m < 8 ∧ ColS R (mxL l) l ∧ 1 ≤ mxL l ∧ mxL l ≤ 30 ∧ ColS R 30 (stL l i j m) ∧ meaL R (stL l i j m) < meaL R l ∧ F_impl_ReduceColumn_l1 from_ (R, 1, l, out) = some (.nx (R, 1, stL l i j m, out ++ [TTwoLevel.mk 3 i j m]))) := by
 have hle := lvn_le hR
 have hn := mx_nn l
 have hk30 : mxL l ≤ 30 := mx_lt (by decide) h.exp
 have hlen : l.length ≤ 100 := by rw [h.len]; omega
 have hc : ColS R (mxL l) l := ⟨h.len, h.ok, h.unit, fun x hx => mx_le hx⟩
 by_cases h0 : mxL l = 0
 ·refine .inl ⟨h0, ?_⟩
  unfold F_impl_ReduceColumn_l1
  simp only
  rw [mx_impl (col_mok hR h) hlen, h0]
  rfl
 ·have hb : (mxL l == 0) = false := beq_false_of_ne h0
  cases hx : nxT (lvT (mxL l) l) with
  | none =>
   refine .inr (.inl ⟨by omega, rfl, ?_⟩)
   unfold F_impl_ReduceColumn_l1
   simp only
   rw [mx_impl (col_mok hR h) hlen]
   simp only [Option.bind_some]
   rw [hb, lower_impl hc.cb ⟨hn, hk30⟩ hlen, hx]
   rfl
  | some t =>
   obtain ⟨i, j, m, rfl, hij, hj, hm, g1, g2, g3, g4, g5⟩ := step_all hle.2 h (by omega) hx
   refine .inr (.inr ⟨by omega, i, j, m, rfl, hij, hj, hm, g1, g2, g3, g4, g5, ?_⟩)
   unfold F_impl_ReduceColumn_l1
   simp only
   rw [mx_impl (col_mok hR h) hlen]
   simp only [Option.bind_some]
   rw [hb, lower_impl hc.cb ⟨hn, hk30⟩ hlen, hx]
   simp only [cond_false, nxR, Option.bind_some, Bool.not_true]
   rw [tl_impl hR hij hj hm]
   simp only [Option.bind_some]
   rw [mul_step hR hc ⟨g2, g3⟩ hij hj hm]
   simp only [Option.bind_some, Bool.not_true, cond_false]
   rw [chk_t (by omega)]

theorem dz_eq (x : TDyadic) : (((x.Num.A == 0) && ((x.Num.B == 0) && ((x.Num.C == 0) && ((x.Num.D == 0) && true)))) && ((x.Exp == 0) && true)) = decide (x = dZero) := dy_eq x dZero
theorem sum_one : ∀ (n : Nat) (g : Nat → TRing), (eSum n (fun p => aSq (g p) (g p))).A = 1 → ∃ p, p < n ∧ nR (g p) = 1 ∧ ∀ q, q < n → q ≠ p → nR (g q) = 0
 | 0, _, h => by cases h
 | n + 1, g, h => by
  have e : (eSum (n + 1) (fun p => aSq (g p) (g p))).A = (eSum n (fun p => aSq (g p) (g p))).A + (aSq (g n) (g n)).A := rfl
  rw [e, aSq_A] at h
  have hn := nR_nn (g n)
  obtain ⟨h0, hle⟩ := sum_A n g
  by_cases hz : nR (g n) = 0
  ·obtain ⟨p, hp, h1, h2⟩ := sum_one n g (by omega)
   refine ⟨p, by omega, h1, fun q hq hqp => ?_⟩
   by_cases hqn : q = n
   ·subst hqn; exact hz
   ·exact h2 q (by omega) hqp
  ·refine ⟨n, by omega, by omega, fun q hq hqn => ?_⟩
   have := hle q (by omega)
   have := nR_nn (g q)
   omega
theorem nR_zero {x : TRing} (h : nR x = 0) : x = rZero := by
 have a := sq_nonneg x.A
 have b := sq_nonneg x.B
 have c := sq_nonneg x.C
 have d := sq_nonneg x.D
 unfold nR at h
 have key : ∀ t : Int, t * t ≤ 0 → t = 0 := fun t ht => by
  rcases Int.mul_eq_zero.1 (show t * t = 0 by have := sq_nonneg t; omega) with h | h <;> exact h
 obtain ⟨A, B, C, D⟩ := x
 simp only at *
 rw [key A (by omega), key B (by omega), key C (by omega), key D (by omega)]; rfl
theorem unit_small : ∀ a b c d : Fin 3, nR (TRing.mk ((a.val : Int) - 1) ((b.val : Int) - 1) ((c.val : Int) - 1) ((d.val : Int) - 1)) = 1 → ∃ e : Fin 8, TDyadic.mk (TRing.mk ((a.val : Int) - 1) ((b.val : Int) - 1) ((c.val : Int) - 1) ((d.val : Int) - 1)) 0 = phD (e.val : Int) := by decide +kernel
theorem nR_one {x : TRing} (h : nR x = 1) : ∃ e : Nat, e < 8 ∧ TDyadic.mk x 0 = phD (e : Int) := by
 have a := sq_nonneg x.A
 have b := sq_nonneg x.B
 have c := sq_nonneg x.C
 have d := sq_nonneg x.D
 have h' := h
 unfold nR at h'
 have key : ∀ t : Int, t * t ≤ 1 → -1 ≤ t ∧ t ≤ 1 := fun t ht => by
  have h2 := sq_le (a := t) (N := t * t) (M := 2) (by decide) (by omega) (by omega)
  by_cases e1 : t = 2
  ·subst e1; omega
  ·by_cases e2 : t = -2
   ·subst e2; omega
   ·omega
 obtain ⟨A, B, C, D⟩ := x
 simp only at *
 have kA := key A (by omega)
 have kB := key B (by omega)
 have kC := key C (by omega)
 have kD := key D (by omega)
 have fn : ∀ t : Int, -1 ≤ t ∧ t ≤ 1 → ∃ f : Fin 3, t = (f.val : Int) - 1 := fun t ht => ⟨⟨(t + 1).toNat, by omega⟩, by simp only; omega⟩
 obtain ⟨fa, rfl⟩ := fn A kA
 obtain ⟨fb, rfl⟩ := fn B kB
 obtain ⟨fc, rfl⟩ := fn C kC
 obtain ⟨fd, rfl⟩ := fn D kD
 obtain ⟨e, he⟩ := unit_small fa fb fc fd h
 exact ⟨e.val, e.isLt, he⟩
theorem end_col {R : Nat} {l : List TDyadic} (h : ColS R 30 l) (h0 : mxL l = 0) : ∃ p e : Nat, p < R ∧ e < 8 ∧ l.getD p dZero = phD (e : Int) ∧ ∀ q, q < R → q ≠ p → l.getD q dZero = dZero := by
 have hE : ∀ q, q < R → (l.getD q dZero).Exp = 0 := fun q hq => by
  rw [List.getD_eq_getElem?_getD, List.getElem?_eq_getElem (by rw [h.len]; exact hq)]
  have hm := List.getElem_mem (show q < l.length by rw [h.len]; exact hq)
  have h1 := mx_le hm
  have h2 := (d_parts (h.ok _ hm)).2.1
  show (l[q]'(by rw [h.len]; exact hq)).Exp = 0
  omega
 have hv : ∀ q, q < R → vC l q = rIt 60 (l.getD q dZero).Num := fun q hq => by
  unfold vC vOf; rw [hE q hq]; rfl
 have hu := h.unit
 unfold UnitV at hu
 rw [eSum_congr (g := fun q => rIt 120 (aSq (l.getD q dZero).Num (l.getD q dZero).Num)) (fun q hq => by rw [hv q hq, aSq_it]), ← it_sum] at hu
 have hu := congrArg TRing.A (it_inj 120 hu)
 obtain ⟨p, hp, h1, h2⟩ := sum_one R (fun q => (l.getD q dZero).Num) hu
 obtain ⟨e, he, hpe⟩ := nR_one h1
 have eta : ∀ x : TDyadic, x.Exp = 0 → x = TDyadic.mk x.Num 0 := fun x hx => by cases x; simp only at hx; subst hx; rfl
 refine ⟨p, e, hp, he, ?_, fun q hq hqp => ?_⟩
 ·rw [eta _ (hE p hp)]; exact hpe
 ·rw [eta _ (hE q hq), nR_zero (h2 q hq hqp)]; rfl
theorem po_impl : ∀ e : Fin 8, F_impl_PhaseOf (phD (e.val : Int)) = some ((e.val : Int), true) := by decide +kernel
theorem po_nz : ∀ e : Fin 8, ¬ phD (e.val : Int) = dZero := by decide +kernel
def finL (p : Nat) (from_ : Int) (e : Nat) : List TTwoLevel := (if (p : Int) = from_ then [] else [TTwoLevel.mk 2 (if from_ < (p : Int) then from_ else (p : Int)) (if (p : Int) < from_ then from_ else (p : Int)) 0]) ++ (if 0 < e then [TTwoLevel.mk 1 from_ 0 (8 - (e : Int))] else [])
theorem fin_impl {R : Nat} {l : List TDyadic} (hl : l.length = R) (hR : R ≤ 8) {p e : Nat} (hp : p < R) (he : e < 8) (h1 : l.getD p dZero = phD (e : Int)) (h2 : ∀ q, q < R → q ≠ p → l.getD q dZero = dZero) (from_ : Int) : F_impl_finishing (TMatrix.mk R 1 l) from_ = some (finL p from_ e, true) := by
 have h8 : IntKind.i64.wrap (8 - (e : Int)) = 8 - (e : Int) := wr (by omega)
 unfold F_impl_finishing
 rw [chk_t (by simp only; omega), forX_fnd (fun j => decide (j = p)) (fun _ => (finL p from_ e, true)) l.length 0 (fun j _ hj => by
  unfold F_impl_finishing_l1
  simp only
  rw [gI (n := j) rfl (by omega)]
  simp only [Option.bind_some]
  rw [dz_eq]
  by_cases hjp : j = p
  ·subst hjp
   rw [h1, decide_eq_false (po_nz ⟨e, he⟩), decide_eq_true rfl, show F_impl_PhaseOf (phD (e : Int)) = _ from po_impl ⟨e, he⟩]
   simp only [cond_false, cond_true, Option.bind_some, Bool.not_true, h8]
   unfold finL
   by_cases hf : (j : Int) = from_
   ·rw [show ((j : Int) != from_) = false by rw [hf]; exact bne_self_eq_false _, if_pos hf]
    by_cases h0 : 0 < e
    ·rw [decide_eq_true (show (0 : Int) < (e : Int) by omega), if_pos h0]; rfl
    ·rw [decide_eq_false (show ¬ (0 : Int) < (e : Int) by omega), if_neg h0]; rfl
   ·rw [show ((j : Int) != from_) = true by simp [hf], if_neg hf]
    by_cases h0 : 0 < e
    ·rw [decide_eq_true (show (0 : Int) < (e : Int) by omega), if_pos h0]; rfl
    ·rw [decide_eq_false (show ¬ (0 : Int) < (e : Int) by omega), if_neg h0]; rfl
  ·rw [h2 j (by omega) hjp, decide_eq_true rfl, decide_eq_false hjp]; rfl)]
 have hfind : (List.range' 0 l.length).find? (fun j => decide (j = p)) = some p := by
  cases hc : (List.range' 0 l.length).find? (fun j => decide (j = p)) with
  | none =>
   have := List.find?_eq_none.1 hc p (by rw [List.mem_range'_1]; omega)
   simp at this
  | some j =>
   have := List.find?_some hc
   rw [of_decide_eq_true this]
 rw [hfind]; rfl
def startF (l : List TDyadic) (f k : Nat) (s : TDyadic) : Option TDyadic := if k < f ∧ ¬ l.getD k dZero = dZero then none else dotS (fun k => l.getD k dZero) (fun k => dConj (l.getD k dZero)) k s
theorem forN_none {σ : Type} {f : Nat → σ → Option σ} : ∀ (m i k : Nat) (s : σ), i ≤ k → k < i + m → (∀ s, f k s = none) → forN f m i s = none
 | 0, i, k, _, h1, h2, _ => absurd h2 (by omega)
 | m + 1, i, k, s, h1, h2, h => by
  show (f i s).bind _ = none
  by_cases hk : i = k
  ·subst hk; rw [h]; rfl
  ·cases hf : f i s with
   | none => rfl
   | some z => exact forN_none m (i + 1) k z (by omega) (by omega) h
theorem start_eq {l : List TDyadic} {f : Nat} {R : Nat} (hf : f ≤ R) : ((∀ k, k < f → l.getD k dZero = dZero) ∧ forN (startF l f) R 0 dZero = forN (dotS (fun k => l.getD k dZero) (fun k => dConj (l.getD k dZero))) R 0 dZero) ∨ ((∃ k, k < f ∧ ¬ l.getD k dZero = dZero) ∧ forN (startF l f) R 0 dZero = none) := by
 by_cases h : ∃ k, k < f ∧ ¬ l.getD k dZero = dZero
 ·obtain ⟨k, hk, hz⟩ := h
  exact .inr ⟨⟨k, hk, hz⟩, forN_none R 0 k _ (by omega) (by omega) (fun s => by unfold startF; rw [if_pos ⟨hk, hz⟩])⟩
 ·have h : ∀ k, k < f → l.getD k dZero = dZero := fun k hk => Classical.byContradiction fun hz => h ⟨k, hk, hz⟩
  refine .inl ⟨h, ?_⟩
  congr 1
  funext k s
  unfold startF
  rw [if_neg (by rintro ⟨h1, h2⟩; exact h2 (h k h1))]
theorem start_col {R : Nat} {l : List TDyadic} (hl : l.length = R) (ol : okD l) (h : forN (dotS (fun k => l.getD k dZero) (fun k => dConj (l.getD k dZero))) R 0 dZero = some dOne) : ColS R 30 l := by
 obtain ⟨_, hv⟩ := dot_val (fun k => getD_ok ol k) (fun k => conj_ok (getD_ok ol k)) h
 refine ⟨hl, ol, ?_, fun x hx => ?_⟩
 ·unfold UnitV
  rw [vone, ← rIt_add] at hv
  rw [show (120 : Nat) = 60 + 60 from rfl, hv]
  exact eSum_congr fun p _ => by unfold vC aSq; rw [v_conj]
 ·have := forN_ind (fun i (_ : TDyadic) => ∀ k, k < i → (l.getD k dZero).Exp ≤ 30) R 0 dZero dOne h (fun k hk => absurd hk (Nat.not_lt_zero _)) (fun j s s' _ _ hI hs k hk => by
   by_cases hkj : k = j
   ·subst hkj
    unfold dotS at hs
    obtain ⟨p, hp, hs⟩ := Option.bind_eq_some_iff.1 hs
    have := (dm_val (getD_ok ol k) (conj_ok (getD_ok ol k)) hp).1
    have e : (dConj (l.getD k dZero)).Exp = (l.getD k dZero).Exp := rfl
    rw [e] at this
    omega
   ·exact hI k (by omega))
  obtain ⟨p, hp, rfl⟩ := List.mem_iff_getElem.1 hx
  have := this p (by omega)
  rw [List.getD_eq_getElem?_getD, List.getElem?_eq_getElem hp] at this
  exact this
theorem norm_impl {x : TDyadic} (hx : dOk x = true) : F_impl_NormSquare x = (F_impl_MulDyadic x (dConj x)).bind fun p => some (p.1, p.2) := by
 unfold F_impl_NormSquare
 rw [impl_conj hx]; rfl
def colO (l : List TDyadic) (f : Nat) : Bool := match forN (startF l f) l.length 0 dZero with | some z => decide (z = dOne) | none => false
theorem isc_good {R : Nat} {l : List TDyadic} (hR : LvN R) (hl : l.length = R) (ol : okD l) {f : Nat} (hf : f < R) : F_impl_isColumn (TMatrix.mk R 1 l) f = some (colO l f) := by
 have hle := lvn_le hR
 have hm : mOk (TMatrix.mk R 1 l) = true := m_make (C := 1) (lvn_dim hR) (by decide) (by omega) ol
 unfold F_impl_isColumn
 rw [impl_mgood _ (by simp only; omega), hm]
 simp only [Option.bind_some, bne_self_eq_false, Bool.not_true, Bool.or_self, Bool.not_false, gb, cond_true, lvn_impl hR]
 unfold F_impl_within
 rw [wr (a := (R : Int) - 1) (by omega), decide_eq_true (show (0 : Int) ≤ (f : Int) by omega), decide_eq_true (show (f : Int) ≤ (R : Int) - 1 by omega)]
 simp only [Option.bind_some, Bool.and_self, Bool.not_true, Bool.or_self, cond_false]
 rw [chk_t (by omega)]
 have := (im_it (g := F_impl_isColumn_l1 (TMatrix.mk R 1 l) f) (enc := iT) (G := fun _ z => dOk z = true) (st := startF l f) (R := false) (n := l.length) (fun k s hk hs => by
  have ok := getD_ok ol k
  have hd := dot_impl (X := fun k => l.getD k dZero) (Y := fun k => dConj (l.getD k dZero)) (fun k => getD_ok ol k) (fun k => conj_ok (getD_ok ol k)) false k s hs
  unfold F_impl_isColumn_l1 iT
  simp only
  rw [gI (n := k) rfl hk]
  simp only [Option.bind_some]
  rw [norm_impl ok, dz_eq]
  unfold startF
  by_cases hz : k < f ∧ ¬ l.getD k dZero = dZero
  ·rw [if_pos hz, decide_eq_true (show (k : Int) < (f : Int) by omega), decide_eq_false hz.2]
   rw [imM ok (conj_ok ok)]
   have ho : dOk (dR (DM (l.getD k dZero) (dConj (l.getD k dZero)))).1 = true := dR_ok (fun z hz => dm_ok ok (conj_ok ok) hz)
   simp only [Option.bind_some]
   rw [show TDyadic.mk (TRing.mk s.Num.A s.Num.B s.Num.C s.Num.D) s.Exp = s from rfl, imA hs ho]
   simp only [Option.bind_some, Bool.not_false, Bool.and_self, Bool.or_true, cond_true]
   exact ⟨rfl, fun z hz => by cases hz⟩
  ·rw [if_neg hz]
   have hb : (decide ((k : Int) < (f : Int)) && !decide (l.getD k dZero = dZero)) = false := by
    by_cases h1 : k < f
    ·have h2 : l.getD k dZero = dZero := Classical.byContradiction fun h => hz ⟨h1, h⟩
     rw [decide_eq_true h2]; simp
    ·rw [decide_eq_false (show ¬ (k : Int) < (f : Int) by omega)]; rfl
   rw [hb]
   refine ⟨?_, hd.2⟩
   show _ = some (nxO iT false _)
   rw [← hd.1]
   cases hM : F_impl_MulDyadic (l.getD k dZero) (dConj (l.getD k dZero)) with
   | none => rfl
   | some p =>
    obtain ⟨p1, p2⟩ := p
    simp only [Option.bind_some, Bool.or_false]
    rfl) l.length 0 dZero (by omega) dZero_ok).1
 rw [show forX (F_impl_isColumn_l1 (TMatrix.mk R 1 l) f) l.length 0 (0, 0, 0, 0, 0) = _ from this]
 unfold colO
 cases forN (startF l f) l.length 0 dZero with
 | none => rfl
 | some z =>
  simp only [exO, Option.bind_some, orR, iT]
  unfold F_impl_whole
  simp only [Option.bind_some]
  exact congrArg some (dy_eq z dOne)

def emC (x y : Nat) (B : Bool → Bool → TDyadic) (a b : Nat) : TDyadic := if (a = x ∨ a = y) ∧ (b = x ∨ b = y) then B (decide (a = y)) (decide (b = y)) else if a = b then dOne else dZero
def emL (R x y : Nat) (B : Bool → Bool → TDyadic) : List TDyadic := (gridO (fun a b => some (emC x y B a b)) R R).getD []
def BlK (B : Bool → Bool → TDyadic) : Prop := ∀ p q, Bd 2 16 (B p q)
theorem one_bd2 : Bd 2 16 dOne := by unfold Bd; decide +kernel
theorem emC_bd {x y : Nat} {B : Bool → Bool → TDyadic} (hB : BlK B) (a b : Nat) : Bd 2 16 (emC x y B a b) := by
 unfold emC
 split
 ·exact hB _ _
 ·split
  ·exact one_bd2
  ·exact bd_zero 2 (by decide)
theorem em_all {x y : Nat} {B : Bool → Bool → TDyadic} (hB : BlK B) (R : Nat) : gridO (fun a b => some (emC x y B a b)) R R = some (emL R x y B) ∧ okD (emL R x y B) ∧ (emL R x y B).length = R * R ∧ ∀ a b, a < R → b < R → (emL R x y B).getD (a * R + b) dZero = emC x y B a b := by
 obtain ⟨l, h1, h2, h3⟩ := grid_pure (f := fun a b => emC x y B a b) R R (fun a b _ _ => (emC_bd hB a b).1)
 have e : emL R x y B = l := by unfold emL; rw [h1]; rfl
 rw [e]
 exact ⟨h1, h2, h3, fun a b ha hb => (Option.some.inj ((grid_get h1).2 a b ha hb)).symm⟩
theorem dot_mid {X Y : Nat → TDyadic} {K : Nat} (hK : K ≤ 8) (hX : ∀ k, k < K → Bd 2 16 (X k)) (hY : ∀ k, k < K → Bd 2 16 (Y k)) : ∃ z, forN (dotS X Y) K 0 dZero = some z := by
 obtain ⟨z, h, _⟩ := forN_inv (f := dotS X Y) (fun k z => Bd 4 (1024 * (2 ^ (k + 1) - 2)) z) K 0 dZero (bd_zero 4 (by decide)) (fun k z _ hk hz => by
  obtain ⟨p, h0, b0⟩ := DM_bd (hX k (by omega)) (hY k (by omega)) (by decide) (by decide) (by decide) (by decide)
  have hp : (2 : Int) ^ (k + 1) ≤ 2 ^ 9 := p2_le (by omega)
  have hp8 : (2 : Int) ^ 1 ≤ 2 ^ (k + 1) := p2_le (by omega)
  have hs : (2 : Int) ^ (k + 1 + 1) = 2 ^ (k + 1) * 2 := Int.pow_succ 2 (k + 1)
  rw [hs]
  generalize (2 : Int) ^ (k + 1) = q at *
  obtain ⟨s, g0, d0⟩ := DA_bd hz (b0.mono (f := 4) (L := 1024) (by decide) (by decide)) (by decide) (by omega) (by decide) (by omega)
  refine ⟨s, by unfold dotS; rw [h0, Option.bind_some, g0], ?_⟩
  exact d0.mono (Nat.le_refl _) (by omega))
 exact ⟨z, h⟩
def BlV (B1 B2 B3 : Bool → Bool → TDyadic) : Prop := ∀ p q, rIt 60 (vOf (B3 p q)) = rPlus (eMul (vOf (B1 p false)) (vOf (B2 false q))) (eMul (vOf (B1 p true)) (vOf (B2 true q)))
theorem em_mul {R x y : Nat} (hR : R ≤ 8) (hxy : x ≠ y) (hx : x < R) (hy : y < R) {B1 B2 B3 : Bool → Bool → TDyadic} (h1 : BlK B1) (h2 : BlK B2) (h3 : BlK B3) (hv : BlV B1 B2 B3) : mmO (emL R x y B1) (emL R x y B2) R R R = some (emL R x y B3) := by
 obtain ⟨_, o1, l1, g1⟩ := em_all (x := x) (y := y) h1 R
 obtain ⟨_, o2, l2, g2⟩ := em_all (x := x) (y := y) h2 R
 obtain ⟨_, o3, l3, g3⟩ := em_all (x := x) (y := y) h3 R
 obtain ⟨L, hL⟩ : ∃ L, mmO (emL R x y B1) (emL R x y B2) R R R = some L := by
  refine grid_totC fun a b ha hb => dot_mid hR (fun q hq => ?_) (fun q hq => ?_)
  ·rw [g1 a q ha hq]; exact emC_bd h1 a q
  ·rw [g2 q b hq hb]; exact emC_bd h2 q b
 obtain ⟨e1, e2, e3⟩ := mm_val o1 o2 hL
 rw [hL]
 refine congrArg some (m_ext e1 l3 e2 o3 fun a b ha hb => it_inj 60 ?_)
 rw [e3 a b ha hb, eSum_congr (g := fun q => eMul (vOf (emC x y B1 a q)) (vOf (emC x y B2 q b))) (fun q hq => by unfold vM; rw [g1 a q ha hq, g2 q b hq hb])]
 unfold vM
 rw [g3 a b ha hb]
 have dyx : decide (x = y) = false := decide_eq_false hxy
 have dyy : decide (y = y) = true := decide_eq_true rfl
 by_cases hin : a = x ∨ a = y
 ·have hout : ∀ q, q ≠ x → q ≠ y → emC x y B1 a q = dZero := fun q q1 q2 => by
   unfold emC
   rw [if_neg (by omega), if_neg (by omega)]
  rw [eSum_two (s := x) (t := y) hx hy hxy (fun q _ q1 q2 => by rw [hout q q1 q2, vz, zero_mul'])]
  by_cases hb2 : b = x ∨ b = y
  ·have e : ∀ (B : Bool → Bool → TDyadic) (u v : Nat), (u = x ∨ u = y) → (v = x ∨ v = y) → emC x y B u v = B (decide (u = y)) (decide (v = y)) := fun B u v hu hv => by unfold emC; rw [if_pos ⟨hu, hv⟩]
   rw [e B1 a x hin (.inl rfl), e B1 a y hin (.inr rfl), e B2 x b (.inl rfl) hb2, e B2 y b (.inr rfl) hb2, e B3 a b hin hb2, dyx, dyy, hv]
  ·have hz : ∀ (B : Bool → Bool → TDyadic) (u : Nat), (u = x ∨ u = y) → emC x y B u b = dZero := fun B u hu => by
    unfold emC
    rw [if_neg (by omega), if_neg (by omega)]
   rw [hz B2 x (.inl rfl), hz B2 y (.inr rfl), hz B3 a hin, vz, eMul_zero, eMul_zero]
   rw [it_z, zero_plus]
 ·have hd : ∀ (B : Bool → Bool → TDyadic) (v : Nat), emC x y B a v = if a = v then dOne else dZero := fun B v => by
   unfold emC
   rw [if_neg (by omega)]
  rw [eSum_one (s := a) ha (fun q _ q1 => by rw [hd B1 q, if_neg (by omega), vz, zero_mul'])]
  rw [hd B1, if_pos rfl, hd B2, hd B3, vone, it_mul, one_mul']
theorem unit_em {R x y : Nat} (hxy : x ≠ y) {B : Bool → Bool → TDyadic} (hB : BlK B) (h : ∀ p q, B p q = if p = q then dOne else dZero) : emL R x y B = unitL R := by
 obtain ⟨_, o1, l1, g1⟩ := em_all (x := x) (y := y) hB R
 refine grid_ext l1 (unit_len R) fun a b ha hb => ?_
 rw [g1 a b ha hb, unit_get ha hb]
 unfold emC
 by_cases hin : (a = x ∨ a = y) ∧ (b = x ∨ b = y)
 ·rw [if_pos hin, h]
  by_cases hab : a = b
  ·subst hab; rw [if_pos rfl, if_pos rfl]
  ·rw [if_neg hab, if_neg]
   rw [decide_eq_decide]; omega
 ·rw [if_neg hin]
def bId (p q : Bool) : TDyadic := if p = q then dOne else dZero
def bW (m : Nat) (p q : Bool) : TDyadic := bif p != q then dZero else bif p then dOne else phD (m : Int)
def bV (m : Nat) (p q : Bool) : TDyadic := bif p != q then dZero else bif p then phD (m : Int) else dOne
def bX (p q : Bool) : TDyadic := bif p != q then dOne else dZero
def bH (m : Nat) (p q : Bool) : TDyadic := bif !q then hD else bif !p then tw m hD else tw (m + 4) hD
theorem blk_id : BlK bId := by unfold BlK Bd; decide +kernel
theorem blk_x : BlK bX := by unfold BlK Bd; decide +kernel
theorem blk_w_ : ∀ m : Fin 8, BlK (bW m.val) ∧ BlK (bV m.val) ∧ BlK (bH m.val) := by unfold BlK Bd; decide +kernel
theorem blk_w {m : Nat} (h : m < 8) : BlK (bW m) := (blk_w_ ⟨m, h⟩).1
theorem blk_v {m : Nat} (h : m < 8) : BlK (bV m) := (blk_w_ ⟨m, h⟩).2.1
theorem blk_h {m : Nat} (h : m < 8) : BlK (bH m) := (blk_w_ ⟨m, h⟩).2.2
theorem blv_x : BlV bId bX bX ∧ BlV bX bX bId := by unfold BlV; decide +kernel
theorem blv_m_ : ∀ m : Fin 8, BlV bId (bW m.val) (bW m.val) ∧ BlV bId (bH m.val) (bH m.val) ∧ (0 < m.val → BlV (bW m.val) (bW (8 - m.val)) bId ∧ BlV (bH m.val) (bV (8 - m.val)) (bH 0)) := by unfold BlV; decide +kernel
theorem blv_h : BlV (bH 0) (bH 0) bId := by unfold BlV; decide +kernel
theorem im_matP {R : Nat} (hR : LvN R) {t : TTwoLevel} (hv : F_impl_IsValidTwoLevel R t = some true) {x y : Nat} {B : Bool → Bool → TDyadic} (hB : BlK B) (hc : ∀ a b, a < R → b < R → F_impl_levelCell t a b = some (emC x y B a b)) : F_impl_TwoLevelMatrix R t = some (TMatrix.mk R R (emL R x y B), true) := by
 have hle := lvn_le hR
 obtain ⟨h1, h2⟩ := im_matrixOf (cell := fun x_0 x_1 => F_impl_TwoLevelMatrix_1 x_0 x_1 t) (cellO := fun a b => some (emC x y B a b)) (lvn_dim hR) (lvn_dim hR) (by omega) (by omega) (fun a b ha hb => ⟨by
  unfold F_impl_TwoLevelMatrix_1
  rw [hc a b ha hb]; rfl, fun z hz => by cases hz; exact (emC_bd hB a b).1⟩)
 unfold F_impl_TwoLevelMatrix
 rw [hv]
 simp only [Option.bind_some, Bool.not_true, cond_false]
 rw [h1, (em_all hB R).1]
 rfl
theorem lc_pre {m : Nat} (hm : m < 8) : F_impl_phase (m : Int) = some (phD m) ∧ F_impl_MulDyadic (TDyadic.mk (TRing.mk 1 0 0 0) 1) (phD m) = some (tw m hD, true) ∧ F_impl_phase (IntKind.i64.wrap ((m : Int) + 4)) = some (phD ((m : Int) + 4)) ∧ F_impl_MulDyadic (TDyadic.mk (TRing.mk 1 0 0 0) 1) (phD ((m : Int) + 4)) = some (tw (m + 4) hD, true) := lc_small ⟨m, hm⟩
theorem em_tl {i j m : Nat} (hij : i < j) (a b : Nat) : tlC i j m a b = emC i j (bH m) a b := by
 unfold tlC emC bH
 by_cases h : (a = i ∨ a = j) ∧ (b = i ∨ b = j)
 ·rw [if_pos h, if_pos h]
  by_cases hb : b = i
  ·rw [if_pos hb, decide_eq_false (show ¬ b = j by omega)]; rfl
  ·rw [if_neg hb, decide_eq_true (show b = j by omega)]
   by_cases ha : a = i
   ·rw [if_pos ha, decide_eq_false (show ¬ a = j by omega)]; rfl
   ·rw [if_neg ha, decide_eq_true (show a = j by omega)]; rfl
 ·rw [if_neg h, if_neg h]
theorem mat_h {R i j m : Nat} (hR : LvN R) (hij : i < j) (hj : j < R) (hm : m < 8) : F_impl_TwoLevelMatrix R (TTwoLevel.mk 3 (i : Int) (j : Int) (m : Int)) = some (TMatrix.mk R R (emL R i j (bH m)), true) :=
 im_matP hR (tl_valid hR hij hj hm) (blk_h hm) (fun a b _ _ => by rw [lc_im hm, em_tl hij])
theorem x_valid {R i j : Nat} (hR : LvN R) (hij : i < j) (hj : j < R) : F_impl_IsValidTwoLevel R (TTwoLevel.mk 2 (i : Int) (j : Int) 0) = some true := by
 have := lvn_le hR
 unfold F_impl_IsValidTwoLevel F_impl_within
 rw [lvn_impl hR]
 simp only [Option.bind_some, Bool.not_true, Bool.not_false, gb, cond_true]
 rw [wr (a := (R : Int) - 1) (by omega), wr (a := (i : Int) + 1) (by omega), decide_eq_true (show (0 : Int) ≤ (i : Int) by omega), decide_eq_true (show (i : Int) ≤ (R : Int) - 1 by omega), decide_eq_true (show (i : Int) + 1 ≤ (j : Int) by omega), decide_eq_true (show (j : Int) ≤ (R : Int) - 1 by omega)]
 rfl
theorem w_valid {R i m : Nat} (hR : LvN R) (hi : i < R) (hm : 0 < m ∧ m < 8) : F_impl_IsValidTwoLevel R (TTwoLevel.mk 1 (i : Int) 0 (m : Int)) = some true := by
 have := lvn_le hR
 unfold F_impl_IsValidTwoLevel F_impl_within
 rw [lvn_impl hR]
 simp only [Option.bind_some, Bool.not_true, Bool.not_false, gb, cond_true]
 rw [wr (a := (R : Int) - 1) (by omega), decide_eq_true (show (0 : Int) ≤ (i : Int) by omega), decide_eq_true (show (i : Int) ≤ (R : Int) - 1 by omega), decide_eq_true (show (1 : Int) ≤ (m : Int) by omega), decide_eq_true (show (m : Int) ≤ 7 by omega)]
 rfl
theorem lc_x {i j : Nat} (hij : i < j) (a b : Nat) : F_impl_levelCell (TTwoLevel.mk 2 (i : Int) (j : Int) 0) a b = some (emC i j bX a b) := by
 obtain ⟨h1, h2, h3, h4⟩ := lc_pre (m := 0) (by decide)
 have h1 : F_impl_phase 0 = some (phD ((0 : Nat) : Int)) := h1
 have h3 : F_impl_phase (IntKind.i64.wrap (0 + 4)) = some (phD (((0 : Nat) : Int) + 4)) := h3
 unfold F_impl_levelCell
 simp only [h1, h3, Option.bind_some]
 rw [h2, h4]
 simp only [Option.bind_some, ibeq, ibne, show ((2 : Int) == 1) = false from rfl, show ((2 : Int) == 2) = true from rfl, show ((2 : Int) == 3) = false from rfl, show ((2 : Int) != 1) = true from rfl, Bool.false_and, Bool.true_and, cond_false]
 have ha : a = b ↔ ¬ (a = i ∧ b ≠ i) ∧ ¬ (a ≠ i ∧ b = i) ∧ a = b := by omega
 unfold emC bX F_impl_small F_impl_whole
 by_cases hin : (a = i ∨ a = j) ∧ (b = i ∨ b = j)
 ·rw [if_pos hin]
  rw [show ((decide (a = i) || decide (a = j)) && (decide (b = i) || decide (b = j))) = true by simp [hin.1, hin.2]]
  simp only [cond_true]
  by_cases hab : a = b
  ·rw [decide_eq_true hab, show decide (a = j) = decide (b = j) by rw [hab], bne_self_eq_false]; rfl
  ·rw [decide_eq_false hab, show (decide (a = j) != decide (b = j)) = true by
    rw [bne_iff_ne]; rw [Ne, decide_eq_decide]; omega]
   rfl
 ·rw [if_neg hin]
  rw [show ((decide (a = i) || decide (a = j)) && (decide (b = i) || decide (b = j))) = false by
   rw [← Bool.decide_or, ← Bool.decide_or, ← Bool.decide_and]; exact decide_eq_false hin]
  simp only [cond_false]
  by_cases hab : a = b
  ·rw [decide_eq_true hab, if_pos hab]; rfl
  ·rw [decide_eq_false hab, if_neg hab]; rfl
theorem mat_x {R i j : Nat} (hR : LvN R) (hij : i < j) (hj : j < R) : F_impl_TwoLevelMatrix R (TTwoLevel.mk 2 (i : Int) (j : Int) 0) = some (TMatrix.mk R R (emL R i j bX), true) :=
 im_matP hR (x_valid hR hij hj) blk_x (fun a b _ _ => lc_x hij a b)
theorem lc_w {i m : Nat} (hm : m < 8) (a b : Nat) : F_impl_levelCell (TTwoLevel.mk 1 (i : Int) 0 (m : Int)) a b = some (if a = i ∧ b = i then phD m else if a = b then dOne else dZero) := by
 obtain ⟨h1, h2, h3, h4⟩ := lc_pre hm
 unfold F_impl_levelCell
 simp only [h1, h3, Option.bind_some]
 rw [h2, h4]
 simp only [Option.bind_some, ibeq, show ((1 : Int) == 1) = true from rfl, show ((1 : Int) == 2) = false from rfl, show ((1 : Int) == 3) = false from rfl, show ((1 : Int) != 1) = false from rfl, Bool.false_and, Bool.true_and, cond_false]
 unfold F_impl_small F_impl_whole
 by_cases hin : a = i ∧ b = i
 ·rw [if_pos hin, decide_eq_true hin.1, decide_eq_true hin.2]; rfl
 ·rw [if_neg hin, ← Bool.decide_and, decide_eq_false hin]
  simp only [cond_false]
  by_cases hab : a = b
  ·rw [decide_eq_true hab, if_pos hab]; rfl
  ·rw [decide_eq_false hab, if_neg hab]; rfl
theorem mat_w {R i y m : Nat} (hR : LvN R) (hi : i < R) (hy : y ≠ i) (hm : 0 < m ∧ m < 8) : F_impl_TwoLevelMatrix R (TTwoLevel.mk 1 (i : Int) 0 (m : Int)) = some (TMatrix.mk R R (emL R i y (bW m)), true) :=
 im_matP hR (w_valid hR hi hm) (blk_w hm.2) (fun a b _ _ => by
  rw [lc_w hm.2]
  unfold emC bW
  by_cases h1 : a = i ∧ b = i
  ·rw [if_pos h1, if_pos ⟨.inl h1.1, .inl h1.2⟩, decide_eq_false (show ¬ a = y by omega), decide_eq_false (show ¬ b = y by omega)]; rfl
  ·rw [if_neg h1]
   by_cases hin : (a = i ∨ a = y) ∧ (b = i ∨ b = y)
   ·rw [if_pos hin]
    by_cases hab : a = b
    ·rw [if_pos hab, decide_eq_true (show a = y by omega), decide_eq_true (show b = y by omega)]; rfl
    ·rw [if_neg hab, show (decide (a = y) != decide (b = y)) = true by rw [bne_iff_ne, Ne, decide_eq_decide]; omega]; rfl
   ·rw [if_neg hin])
theorem mat_v {R i x m : Nat} (hR : LvN R) (hi : i < R) (hx : x ≠ i) (hm : 0 < m ∧ m < 8) : F_impl_TwoLevelMatrix R (TTwoLevel.mk 1 (i : Int) 0 (m : Int)) = some (TMatrix.mk R R (emL R x i (bV m)), true) :=
 im_matP hR (w_valid hR hi hm) (blk_v hm.2) (fun a b _ _ => by
  rw [lc_w hm.2]
  unfold emC bV
  by_cases h1 : a = i ∧ b = i
  ·rw [if_pos h1, if_pos ⟨.inr h1.1, .inr h1.2⟩, decide_eq_true h1.1, decide_eq_true h1.2]; rfl
  ·rw [if_neg h1]
   by_cases hin : (a = x ∨ a = i) ∧ (b = x ∨ b = i)
   ·rw [if_pos hin]
    by_cases hab : a = b
    ·rw [if_pos hab, decide_eq_false (show ¬ a = i by omega), decide_eq_false (show ¬ b = i by omega)]; rfl
    ·rw [if_neg hab, show (decide (a = i) != decide (b = i)) = true by rw [bne_iff_ne, Ne, decide_eq_decide]; omega]; rfl
   ·rw [if_neg hin])

theorem comp_step {R : Nat} (hR : LvN R) {l : List TTwoLevel} {n : Nat} (hn : n ≤ 1000) {t : TTwoLevel} (ht : l[n]? = some t) {P T Q : List TDyadic} (oP : okD P) (lP : P.length = R * R) (oT : okD T) (lT : T.length = R * R) (hT : F_impl_TwoLevelMatrix R t = some (TMatrix.mk R R T, true)) (hQ : mmO P T R R R = some Q) :
  F_impl_ComposeTwoLevel_l2 l R (R, R, P, true, (n : Int)) = some (.nx (R, R, Q, true, ((n + 1 : Nat) : Int))) := by
 have hlt : n < l.length := by
  rcases Nat.lt_or_ge n l.length with h | h
  ·exact h
  ·rw [List.getElem?_eq_none h] at ht; cases ht
 have hm := (im_mul (R := R) (K := R) (C := R) (m_make (lvn_dim hR) (lvn_dim hR) lP oP) (m_make (lvn_dim hR) (lvn_dim hR) lT oT)).1
 rw [hQ] at hm
 unfold F_impl_ComposeTwoLevel_l2
 simp only
 rw [decide_eq_true (show (n : Int) < (l.length : Int) by omega), getI_nat, ht]
 simp only [Bool.and_self, cond_true, Option.bind_some]
 rw [hT]
 simp only [Option.bind_some]
 rw [hm]
 simp only [mR, Option.bind_some]
 rw [wr (a := (n : Int) + 1) (by omega)]
 rfl
theorem comp_end {R : Nat} {l : List TTwoLevel} {n : Nat} (hn : n = l.length) {P : List TDyadic} : F_impl_ComposeTwoLevel_l2 l R (R, R, P, true, (n : Int)) = some (.br (R, R, P, true, (n : Int))) := by
 unfold F_impl_ComposeTwoLevel_l2
 simp only
 rw [decide_eq_false (show ¬ (n : Int) < (l.length : Int) by omega)]; rfl
theorem comp_of {R : Nat} (hR : LvN R) {l : List TTwoLevel} (hl : l.length ≤ 500) (hv : ∀ t ∈ l, F_impl_IsValidTwoLevel R t = some true) {P : List TDyadic} {n : Int}
  (hw : whX (F_impl_ComposeTwoLevel_l2 l R) fuel (R, R, unitL R, true, ((0 : Nat) : Int)) = some (.inl (R, R, P, true, n))) : F_impl_ComposeTwoLevel R l = some (TMatrix.mk R R P, true) := by
 have hp : forX (F_impl_ComposeTwoLevel_l1 l R) l.length 0 () = some (.inl ()) := by
  rw [forX_fnd (fun _ => false) (fun _ => (TMatrix.mk 0 0 [], false)) l.length 0 (fun j _ hj => by
   have hx := List.getElem?_eq_getElem (show j < l.length by omega)
   unfold F_impl_ComposeTwoLevel_l1
   rw [getI_nat, hx]
   simp only [Option.bind_some]
   rw [hv _ (List.mem_of_getElem? hx)]
   rfl)]
  have : (List.range' 0 l.length).find? (fun _ => false) = none := by rw [List.find?_eq_none]; intro _ _ h; cases h
  rw [this]
 unfold F_impl_ComposeTwoLevel
 rw [lvn_impl hR]
 simp only [Option.bind_some, Bool.not_true, Bool.false_or]
 rw [decide_eq_false (show ¬ 500 < (l.length : Int) by omega)]
 simp only [cond_false]
 rw [unit_impl R (dim_mem (lvn_dim hR))]
 simp only [Option.bind_some]
 rw [chk_t (by omega), hp]
 simp only [Option.bind_some, orR]
 rw [show whX (F_impl_ComposeTwoLevel_l2 l R) fuel (R, R, unitL R, true, 0) = _ from hw]
 rfl
theorem fuel4 : ∃ k, fuel = k + 1 + 1 + 1 + 1 := ⟨18446744073709551612, rfl⟩
theorem comp_two {R x y : Nat} (hR : LvN R) (hxy : x ≠ y) (hx : x < R) (hy : y < R) {t u : TTwoLevel} {B C : Bool → Bool → TDyadic} (hB : BlK B) (hC : BlK C) (vt : F_impl_IsValidTwoLevel R t = some true) (vu : F_impl_IsValidTwoLevel R u = some true)
  (ht : F_impl_TwoLevelMatrix R t = some (TMatrix.mk R R (emL R x y B), true)) (hu : F_impl_TwoLevelMatrix R u = some (TMatrix.mk R R (emL R x y C), true)) (h1 : BlV bId B B) (h2 : BlV B C bId) : F_impl_ComposeTwoLevel R [t, u] = some (TMatrix.mk R R (unitL R), true) := by
 have hle := lvn_le hR
 have eI := unit_em (R := R) hxy blk_id (fun p q => rfl)
 obtain ⟨_, oI, lI, _⟩ := em_all (x := x) (y := y) blk_id R
 obtain ⟨_, oB, lB', _⟩ := em_all (x := x) (y := y) hB R
 obtain ⟨_, oC, lC', _⟩ := em_all (x := x) (y := y) hC R
 refine comp_of hR (by simp) (fun z hz => by
  simp only [List.mem_cons, List.not_mem_nil, or_false] at hz
  rcases hz with rfl | rfl
  ·exact vt
  ·exact vu) (n := ((2 : Nat) : Int)) ?_
 obtain ⟨k, hk⟩ := fuel4
 rw [hk, ← eI]
 rw [whX_nx3 (comp_step hR (n := 0) (by decide) (t := t) rfl oI lI oB lB' ht (em_mul hle.2 hxy hx hy blk_id hB hB h1))]
 rw [whX_nx3 (comp_step hR (n := 0 + 1) (by decide) (t := u) rfl oB lB' oC lC' hu (em_mul hle.2 hxy hx hy hB hC blk_id h2))]
 exact whX_br3 (comp_end rfl)
theorem comp_three {R x y : Nat} (hR : LvN R) (hxy : x ≠ y) (hx : x < R) (hy : y < R) {t u s : TTwoLevel} {B C D E : Bool → Bool → TDyadic} (hB : BlK B) (hC : BlK C) (hD : BlK D) (hE : BlK E) (vt : F_impl_IsValidTwoLevel R t = some true) (vu : F_impl_IsValidTwoLevel R u = some true) (vs : F_impl_IsValidTwoLevel R s = some true)
  (ht : F_impl_TwoLevelMatrix R t = some (TMatrix.mk R R (emL R x y B), true)) (hu : F_impl_TwoLevelMatrix R u = some (TMatrix.mk R R (emL R x y C), true)) (hs : F_impl_TwoLevelMatrix R s = some (TMatrix.mk R R (emL R x y D), true)) (h1 : BlV bId B B) (h2 : BlV B C E) (h3 : BlV E D bId) : F_impl_ComposeTwoLevel R [t, u, s] = some (TMatrix.mk R R (unitL R), true) := by
 have hle := lvn_le hR
 have eI := unit_em (R := R) hxy blk_id (fun p q => rfl)
 obtain ⟨_, oI, lI, _⟩ := em_all (x := x) (y := y) blk_id R
 obtain ⟨_, oB, lB', _⟩ := em_all (x := x) (y := y) hB R
 obtain ⟨_, oC, lC', _⟩ := em_all (x := x) (y := y) hC R
 obtain ⟨_, oD, lD', _⟩ := em_all (x := x) (y := y) hD R
 obtain ⟨_, oE, lE', _⟩ := em_all (x := x) (y := y) hE R
 refine comp_of hR (by simp) (fun z hz => by
  simp only [List.mem_cons, List.not_mem_nil, or_false] at hz
  rcases hz with rfl | rfl | rfl
  ·exact vt
  ·exact vu
  ·exact vs) (n := ((3 : Nat) : Int)) ?_
 obtain ⟨k, hk⟩ := fuel4
 rw [hk, ← eI]
 rw [whX_nx3 (comp_step hR (n := 0) (by decide) (t := t) rfl oI lI oB lB' ht (em_mul hle.2 hxy hx hy blk_id hB hB h1))]
 rw [whX_nx3 (comp_step hR (n := 0 + 1) (by decide) (t := u) rfl oB lB' oC lC' hu (em_mul hle.2 hxy hx hy hB hC hE h2))]
 rw [whX_nx3 (comp_step hR (n := 0 + 1 + 1) (by decide) (t := s) rfl oE lE' oD lD' hs (em_mul hle.2 hxy hx hy hE hD blk_id h3))]
 exact whX_br3 (comp_end rfl)
inductive VTl (R : Nat) : TTwoLevel → Prop
 | w (i m : Nat) : i < R → 0 < m ∧ m < 8 → VTl R (TTwoLevel.mk 1 (i : Int) 0 (m : Int))
 | x (i j : Nat) : i < j → j < R → VTl R (TTwoLevel.mk 2 (i : Int) (j : Int) 0)
 | h (i j m : Nat) : i < j → j < R → m < 8 → VTl R (TTwoLevel.mk 3 (i : Int) (j : Int) (m : Int))
theorem valid_both (n : Int) (hn : 0 ≤ n ∧ n ≤ 100) (t : TTwoLevel) : ∃ b, F_impl_IsValidTwoLevel n t = some b ∧ F_spec_IsValidTwoLevel n t = some b ∧ (b = true → ∃ R : Nat, n = R ∧ LvN R ∧ VTl R t) := by
 have e1 : IntKind.i64.wrap (n - 1) = n - 1 := wr (by omega)
 obtain ⟨K, I, J, M⟩ := t
 unfold F_impl_IsValidTwoLevel F_spec_IsValidTwoLevel F_spec_l11Valid
 rw [show F_spec_l11Dim n = F_impl_isLevelDim n from rfl]
 obtain ⟨d, hd⟩ : ∃ d, F_impl_isLevelDim n = some d := ⟨_, rfl⟩
 rw [hd]
 cases d with
 | false => exact ⟨false, rfl, rfl, fun h => by cases h⟩
 | true =>
  have hR : n = 2 ∨ n = 4 ∨ n = 8 := by
   unfold F_impl_isLevelDim at hd
   have hd := Option.some.inj hd
   simpa [or_assoc] using hd
  obtain ⟨R, rfl⟩ : ∃ R : Nat, n = R := ⟨n.toNat, by omega⟩
  have hL : LvN R := by unfold LvN; omega
  unfold F_impl_within F_spec_l1In
  simp only [Option.bind_some, Bool.not_true, Bool.not_false, gb, cond_true, Bool.false_or]
  rw [e1]
  by_cases hI : 0 ≤ I ∧ I ≤ (R : Int) - 1
  ·rw [decide_eq_true hI.1, decide_eq_true hI.2]
   simp only [Bool.and_self, Option.bind_some, Bool.not_true, Bool.false_or, Bool.not_false, cond_true, cond_false]
   rw [wr (a := I + 1) (by omega)]
   by_cases hJ : 0 ≤ J ∧ J ≤ (R : Int) - 1
   ·rw [decide_eq_true hJ.1, decide_eq_true hJ.2]
    simp only [Bool.and_self, Option.bind_some, Bool.not_true, cond_false]
    obtain ⟨i, rfl⟩ : ∃ i : Nat, I = i := ⟨I.toNat, by omega⟩
    obtain ⟨j, rfl⟩ : ∃ j : Nat, J = j := ⟨J.toNat, by omega⟩
    by_cases k1 : K = 1
    ·subst k1
     simp only [beq_self_eq_true, cond_true]
     by_cases j0 : (j : Int) = 0
     ·rw [show ((j : Int) == 0) = true by rw [j0]; rfl]
      simp only [cond_true, Option.bind_some, Bool.true_and]
      refine ⟨_, rfl, rfl, fun h => ⟨R, rfl, hL, ?_⟩⟩
      simp only [Bool.and_eq_true, decide_eq_true_eq] at h
      obtain ⟨m, rfl⟩ : ∃ m : Nat, M = m := ⟨M.toNat, by omega⟩
      rw [j0]
      exact .w i m (by omega) (by omega)
     ·rw [show ((j : Int) == 0) = false from beq_false_of_ne j0]
      exact ⟨false, rfl, rfl, fun h => by cases h⟩
    ·rw [show (K == 1) = false from beq_false_of_ne k1]
     simp only [cond_false]
     by_cases k2 : K = 2
     ·subst k2
      simp only [beq_self_eq_true, cond_true, Option.bind_some, Bool.and_true]
      refine ⟨_, rfl, ?_, fun h => ⟨R, rfl, hL, ?_⟩⟩
      ·rw [show decide ((i : Int) + 1 ≤ (j : Int)) = decide ((i : Int) < (j : Int)) by rw [decide_eq_decide]; omega]
      ·simp only [Bool.and_eq_true, decide_eq_true_eq, beq_iff_eq] at h
       obtain ⟨h1, rfl⟩ := h
       exact .x i j (by omega) (by omega)
     ·rw [show (K == 2) = false from beq_false_of_ne k2]
      simp only [cond_false]
      by_cases k3 : K = 3
      ·subst k3
       simp only [beq_self_eq_true, cond_true, Bool.true_and, Option.bind_some, Bool.and_true]
       rw [show decide ((i : Int) < (j : Int)) = decide ((i : Int) + 1 ≤ (j : Int)) by rw [decide_eq_decide]; omega]
       by_cases hij : (i : Int) + 1 ≤ (j : Int)
       ·rw [decide_eq_true hij]
        simp only [cond_true, Option.bind_some, Bool.true_and]
        refine ⟨_, rfl, rfl, fun h => ⟨R, rfl, hL, ?_⟩⟩
        simp only [Bool.and_eq_true, decide_eq_true_eq] at h
        obtain ⟨m, rfl⟩ : ∃ m : Nat, M = m := ⟨M.toNat, by omega⟩
        exact .h i j m (by omega) (by omega) (by omega)
       ·rw [decide_eq_false hij]
        exact ⟨false, rfl, rfl, fun h => by cases h⟩
      ·rw [show (K == 3) = false from beq_false_of_ne k3]
       exact ⟨false, rfl, rfl, fun h => by cases h⟩
   ·have hb : (decide (0 ≤ J) && decide (J ≤ (R : Int) - 1)) = false := by
     rw [Bool.and_eq_false_iff, decide_eq_false_iff_not, decide_eq_false_iff_not]; omega
    have hb2 : (decide (I + 1 ≤ J) && decide (J ≤ (R : Int) - 1)) = false := by
     rw [Bool.and_eq_false_iff, decide_eq_false_iff_not, decide_eq_false_iff_not]; omega
    have j0 : (J == 0) = false := beq_false_of_ne (by omega)
    rw [hb, hb2, j0]
    refine ⟨false, ?_, rfl, fun h => by cases h⟩
    cases K == 1 <;> cases K == 2 <;> cases K == 3 <;> rfl
  ·have hb : (decide (0 ≤ I) && decide (I ≤ (R : Int) - 1)) = false := by
    rw [Bool.and_eq_false_iff, decide_eq_false_iff_not, decide_eq_false_iff_not]; omega
   rw [hb]
   exact ⟨false, rfl, rfl, fun h => by cases h⟩
theorem inv_comp {R : Nat} (hR : LvN R) {t : TTwoLevel} (ht : VTl R t) : ∃ l, F_impl_inverseLevels t = some l ∧ l.length ≤ 2 ∧ F_impl_ComposeTwoLevel R ([t] ++ l) = some (TMatrix.mk R R (unitL R), true) := by
 have hle := lvn_le hR
 cases ht with
 | w i m hi hm =>
  obtain ⟨y, hy, hyi⟩ : ∃ y, y < R ∧ y ≠ i := by
   by_cases h : i = 0
   ·exact ⟨1, by omega, by omega⟩
   ·exact ⟨0, by omega, by omega⟩
  have e8 : IntKind.i64.wrap (8 - (m : Int)) = ((8 - m : Nat) : Int) := by rw [wr (by omega)]; omega
  refine ⟨[TTwoLevel.mk 1 i 0 ((8 - m : Nat) : Int)], ?_, by simp, ?_⟩
  ·unfold F_impl_inverseLevels
   simp only [e8]; rfl
  ·exact comp_two hR (x := i) (y := y) (by omega) hi hy (blk_w hm.2) (blk_w (m := 8 - m) (by omega)) (w_valid hR hi hm) (w_valid hR hi ⟨by omega, by omega⟩) (mat_w hR hi hyi hm) (mat_w hR hi hyi ⟨by omega, by omega⟩) (blv_m_ ⟨m, hm.2⟩).1 ((blv_m_ ⟨m, hm.2⟩).2.2 hm.1).1
 | x i j hij hj =>
  exact ⟨[TTwoLevel.mk 2 i j 0], rfl, by simp, comp_two hR (x := i) (y := j) (by omega) (by omega) hj blk_x blk_x (x_valid hR hij hj) (x_valid hR hij hj) (mat_x hR hij hj) (mat_x hR hij hj) blv_x.1 blv_x.2⟩
 | h i j m hij hj hm =>
  by_cases h0 : 0 < m
  ·have e8 : IntKind.i64.wrap (8 - (m : Int)) = ((8 - m : Nat) : Int) := by rw [wr (by omega)]; omega
   refine ⟨[TTwoLevel.mk 1 j 0 ((8 - m : Nat) : Int), TTwoLevel.mk 3 i j ((0 : Nat) : Int)], ?_, by simp, ?_⟩
   ·unfold F_impl_inverseLevels
    simp only [e8]
    rw [decide_eq_true (show (0 : Int) < (m : Int) by omega)]; rfl
   ·exact comp_three hR (x := i) (y := j) (by omega) (by omega) hj (blk_h hm) (blk_v (m := 8 - m) (by omega)) (blk_h (m := 0) (by decide)) (blk_h (m := 0) (by decide)) (tl_valid hR hij hj hm) (w_valid hR hj ⟨by omega, by omega⟩) (tl_valid hR hij hj (m := 0) (by decide)) (mat_h hR hij hj hm) (mat_v hR hj (by omega) ⟨by omega, by omega⟩) (mat_h hR hij hj (m := 0) (by decide)) (blv_m_ ⟨m, hm⟩).2.1 ((blv_m_ ⟨m, hm⟩).2.2 h0).2 blv_h
  ·obtain rfl : m = 0 := by omega
   exact ⟨[TTwoLevel.mk 3 i j ((0 : Nat) : Int)], rfl, by simp, comp_two hR (x := i) (y := j) (by omega) (by omega) hj (blk_h (m := 0) (by decide)) (blk_h (m := 0) (by decide)) (tl_valid hR hij hj (m := 0) (by decide)) (tl_valid hR hij hj (m := 0) (by decide)) (mat_h hR hij hj (m := 0) (by decide)) (mat_h hR hij hj (m := 0) (by decide)) (blv_m_ 0).2.1 blv_h⟩

section
variable {R C : Nat} (hR : R ≤ 32) (hC : C ≤ 32) {l Cells : List TDyadic} (hl : l.length = R * C) (hc : Cells.length = R * C) {i j m k : Nat} (hi : i < R) (hj : j < R) (hk : k < C) (hm : m < 8)
include hR hC hl hc hi hj hk hm
theorem step3 {b0 b1 b2 b3 b4 b5 : Bool} {t2 s1 v1 ng s2 v2 : TDyadic}
  (e1 : F_spec_l2C_mul (cB b0) (phD m) (l.getD (j * C + k) dZero) = some (t2, cB b1)) (e2 : F_spec_l2C_add (cB b1) (l.getD (i * C + k) dZero) t2 = some (s1, cB b2)) (e3 : F_spec_l2C_mul (cB b2) hD s1 = some (v1, cB b3))
  (e4 : F_spec_l2Neg t2 = some ng) (e5 : F_spec_l2C_add (cB b3) (l.getD (i * C + k) dZero) ng = some (s2, cB b4)) (e6 : F_spec_l2C_mul (cB b4) hD s2 = some (v2, cB b5)) :
  F_spec_l2C_level_l1 (TMatrix.mk R C l) (TTwoLevel.mk 3 (i : Int) (j : Int) (m : Int)) k (b0, Cells) = some (b5, (Cells.set (i * C + k) v1).set (j * C + k) v2) := by
 have gi := ix_lt hi hk
 have gj := ix_lt hj hk
 unfold F_spec_l2C_level_l1
 simp only
 rw [ix hi hk hR hC, ix hj hk hR hC, gI (n := i * C + k) rfl (by omega), gI (n := j * C + k) rfl (by omega), (phk (k := m) (by omega)).1]
 simp only [Option.bind_some]
 rw [show Tl2C.mk b0 = cB b0 from rfl, e1]
 simp only [Option.bind_some, show ((3 : Int) == 1) = false from rfl, show ((3 : Int) == 2) = false from rfl, cond_false]
 rw [e2]
 simp only [Option.bind_some]
 rw [show TDyadic.mk (TRing.mk 1 0 0 0) 1 = hD from rfl, e3]
 simp only [Option.bind_some]
 rw [gI (l := Cells) (n := i * C + k) rfl (by omega)]
 simp only [Option.bind_some]
 rw [e4]
 simp only [Option.bind_some]
 rw [e5]
 simp only [Option.bind_some]
 rw [e6]
 simp only [Option.bind_some, Int.toNat_natCast]
 rw [gI (n := j * C + k) rfl (by rw [List.length_set]; omega)]
 rfl
theorem step2 {b0 b1 : Bool} {t2 : TDyadic} (e1 : F_spec_l2C_mul (cB b0) (phD m) (l.getD (j * C + k) dZero) = some (t2, cB b1)) :
  F_spec_l2C_level_l1 (TMatrix.mk R C l) (TTwoLevel.mk 2 (i : Int) (j : Int) (m : Int)) k (b0, Cells) = some (b1, (Cells.set (i * C + k) t2).set (j * C + k) (l.getD (i * C + k) dZero)) := by
 have gi := ix_lt hi hk
 have gj := ix_lt hj hk
 unfold F_spec_l2C_level_l1
 simp only
 rw [ix hi hk hR hC, ix hj hk hR hC, gI (n := i * C + k) rfl (by omega), gI (n := j * C + k) rfl (by omega), (phk (k := m) (by omega)).1]
 simp only [Option.bind_some]
 rw [show Tl2C.mk b0 = cB b0 from rfl, e1]
 simp only [Option.bind_some, show ((2 : Int) == 1) = false from rfl, show ((2 : Int) == 2) = true from rfl, cond_false, cond_true]
 rw [gI (l := Cells) (n := i * C + k) rfl (by omega)]
 simp only [Option.bind_some, Int.toNat_natCast]
 rw [gI (n := j * C + k) rfl (by rw [List.length_set]; omega)]
 rfl
theorem step1 {b0 b1 b2 : Bool} {t2 v1 : TDyadic} (e1 : F_spec_l2C_mul (cB b0) (phD m) (l.getD (j * C + k) dZero) = some (t2, cB b1)) (e2 : F_spec_l2C_mul (cB b1) (phD m) (l.getD (i * C + k) dZero) = some (v1, cB b2)) :
  F_spec_l2C_level_l1 (TMatrix.mk R C l) (TTwoLevel.mk 1 (i : Int) (j : Int) (m : Int)) k (b0, Cells) = some (b2, Cells.set (i * C + k) v1) := by
 have gi := ix_lt hi hk
 have gj := ix_lt hj hk
 unfold F_spec_l2C_level_l1
 simp only
 rw [ix hi hk hR hC, ix hj hk hR hC, gI (n := i * C + k) rfl (by omega), gI (n := j * C + k) rfl (by omega), (phk (k := m) (by omega)).1]
 simp only [Option.bind_some]
 rw [show Tl2C.mk b0 = cB b0 from rfl, e1]
 simp only [Option.bind_some, show ((1 : Int) == 1) = true from rfl, cond_true]
 rw [e2]
 simp only [Option.bind_some]
 rw [gI (l := Cells) (n := i * C + k) rfl (by omega)]
 simp only [Option.bind_some, Int.toNat_natCast]
 rfl
end
theorem okD_set {l : List TDyadic} (h : okD l) {v : TDyadic} (hv : dOk v = true) (p : Nat) : okD (l.set p v) := fun z hz => by
 rcases List.mem_or_eq_of_mem_set hz with h1 | h1
 ·exact h z h1
 ·rw [h1]; exact hv
/-- Each round gives something, whatever the flag. -/
theorem step_tot {R C : Nat} (hR : LvN R) (hC : C ≤ 32) {l Cells : List TDyadic} (ol : okD l) (oc : okD Cells) (hl : l.length = R * C) (hc : Cells.length = R * C) {t : TTwoLevel} (ht : VTl R t) {k : Nat} (hk : k < C) (b0 : Bool) : ∃ b L, F_spec_l2C_level_l1 (TMatrix.mk R C l) t k (b0, Cells) = some (b, L) ∧ okD L ∧ L.length = R * C := by
 have hle := lvn_le hR
 cases ht with
 | w i m hi hm =>
  have hph := (phk (k := m) (by omega)).2.2
  obtain ⟨t2, b1, e1, g1⟩ := srM hph (getD_ok ol (0 * C + k)) b0
  obtain ⟨v1, b2, e2, g2⟩ := srM hph (getD_ok ol (i * C + k)) b1
  exact ⟨b2, _, step1 (j := 0) (by omega) hC hl hc hi (by omega) hk hm.2 e1 e2, okD_set oc g2.1 _, by rw [List.length_set]; exact hc⟩
 | x i j hij hj =>
  have hph := (phk (k := 0) (by omega)).2.2
  obtain ⟨t2, b1, e1, g1⟩ := srM hph (getD_ok ol (j * C + k)) b0
  exact ⟨b1, _, step2 (m := 0) (by omega) hC hl hc (by omega) hj hk (by decide) e1, okD_set (okD_set oc g1.1 _) (getD_ok ol _) _, by rw [List.length_set, List.length_set]; exact hc⟩
 | h i j m hij hj hm =>
  have hph := (phk (k := m) (by omega)).2.2
  have oi := getD_ok ol (i * C + k)
  obtain ⟨t2, b1, e1, g1⟩ := srM hph (getD_ok ol (j * C + k)) b0
  obtain ⟨s1, b2, e2, g2⟩ := srA oi g1.1 b1
  obtain ⟨v1, b3, e3, g3⟩ := srM hD_bd.1 g2.1 b2
  have e4 := spec_neg (d_parts g1.1).1
  obtain ⟨s2, b4, e5, g5⟩ := srA oi (neg_dok g1.1) b3
  obtain ⟨v2, b5, e6, g6⟩ := srM hD_bd.1 g5.1 b4
  exact ⟨b5, _, step3 (by omega) hC hl hc (by omega) hj hk hm e1 e2 e3 e4 e5 e6, okD_set (okD_set oc g3.1 _) g6.1 _, by rw [List.length_set, List.length_set]; exact hc⟩
theorem level_tot {R C : Nat} (hR : LvN R) (hC : C ≤ 32) {l : List TDyadic} (ol : okD l) (hl : l.length = R * C) {t : TTwoLevel} (ht : VTl R t) (b0 : Bool) : ∃ b L, F_spec_l2C_level (Tl2C.mk b0) (TMatrix.mk R C l) t = some (TMatrix.mk R C L, Tl2C.mk b) ∧ okD L ∧ L.length = R * C := by
 have hle := lvn_le hR
 have hRC : R * C ≤ 8 * 32 := Nat.mul_le_mul hle.2 hC
 unfold F_spec_l2C_level
 rw [chk_t (by simp only; omega), chk_t (by simp only; omega)]
 obtain ⟨⟨b, L⟩, h1, h2, h3⟩ := forN_inv (f := F_spec_l2C_level_l1 (TMatrix.mk R C l) t) (fun _ s => okD s.2 ∧ s.2.length = R * C) C 0 (b0, l) ⟨ol, hl⟩ (fun k s _ hk hs => by
  obtain ⟨b, L, e, h1, h2⟩ := step_tot hR hC ol hs.1 hl hs.2 ht (k := k) (by omega) s.1
  exact ⟨(b, L), e, h1, h2⟩)
 simp only [Int.toNat_natCast]
 rw [h1]
 exact ⟨b, L, rfl, h2, h3⟩
theorem set_get {l : List TDyadic} {p : Nat} (hp : p < l.length) (v : TDyadic) (q : Nat) : (l.set p v).getD q dZero = if q = p then v else l.getD q dZero := by
 rw [List.getD_eq_getElem?_getD]
 by_cases h : q = p
 ·subst h
  rw [List.getElem?_set_self hp, if_pos rfl]; rfl
 ·rw [List.getElem?_set_ne (fun e => h e.symm), if_neg h, ← List.getD_eq_getElem?_getD]
/-- A level on the unit, where each round lays the block's two cells of its column. -/
theorem level_unit {R : Nat} (hR : LvN R) {t : TTwoLevel} {x y : Nat} {B : Bool → Bool → TDyadic} (hB : BlK B)
  (hs : ∀ (k : Nat) (Cells : List TDyadic), k < R → Cells.length = R * R → (∀ a, a < R → Cells.getD (a * R + k) dZero = if a = k then dOne else dZero) → ∃ L, F_spec_l2C_level_l1 (TMatrix.mk R R (unitL R)) t k (false, Cells) = some (false, L) ∧ L.length = R * R ∧ ∀ a b, a < R → b < R → L.getD (a * R + b) dZero = if b = k ∧ (a = x ∨ a = y) then emC x y B a b else Cells.getD (a * R + b) dZero) :
  F_spec_l2C_level (Tl2C.mk false) (TMatrix.mk R R (unitL R)) t = some (TMatrix.mk R R (emL R x y B), Tl2C.mk false) := by
 have hle := lvn_le hR
 have hRR : R * R ≤ 8 * 8 := Nat.mul_le_mul hle.2 hle.2
 obtain ⟨_, o1, l1, g1⟩ := em_all (x := x) (y := y) hB R
 unfold F_spec_l2C_level
 rw [chk_t (by simp only; rw [unit_len]; omega), chk_t (by simp only; omega)]
 obtain ⟨⟨b, L⟩, h1, h2, h3, h4⟩ := forN_inv (f := F_spec_l2C_level_l1 (TMatrix.mk R R (unitL R)) t) (fun k s => s.1 = false ∧ s.2.length = R * R ∧ ∀ a b, a < R → b < R → s.2.getD (a * R + b) dZero = if b < k then emC x y B a b else if a = b then dOne else dZero) R 0 (false, unitL R) ⟨rfl, unit_len R, fun a b ha hb => by rw [if_neg (by omega), unit_get ha hb]⟩ (fun k s _ hk hI => by
  obtain ⟨b0, Cells⟩ := s
  obtain ⟨i1, i2, i3⟩ := hI
  simp only at i1 i2 i3
  subst i1
  obtain ⟨L, e, e1, e2⟩ := hs k Cells (by omega) i2 (fun a ha => by rw [i3 a k ha (by omega), if_neg (by omega)])
  refine ⟨(false, L), e, rfl, e1, fun a b ha hb => ?_⟩
  rw [e2 a b ha hb]
  by_cases hbk : b = k ∧ (a = x ∨ a = y)
  ·rw [if_pos hbk, if_pos (by omega)]
  ·rw [if_neg hbk, i3 a b ha hb]
   by_cases h1 : b < k
   ·rw [if_pos h1, if_pos (by omega)]
   ·rw [if_neg h1]
    by_cases h2 : b < k + 1
    ·rw [if_pos h2]
     unfold emC
     exact (if_neg (by omega)).symm
    ·rw [if_neg h2])
 simp only [Int.toNat_natCast]
 rw [h1]
 simp only at h2 h3 h4
 subst h2
 have : L = emL R x y B := grid_ext h3 l1 fun a b ha hb => by rw [h4 a b ha hb, if_pos (by omega), g1 a b ha hb]
 rw [this]; rfl
theorem mul_one_p : ∀ m : Fin 8, F_spec_l2C_mul (cB false) (phD m.val) dOne = some (phD m.val, cB false) ∧ F_spec_l2C_mul (cB false) (phD m.val) dZero = some (dZero, cB false) ∧ F_spec_l2C_add (cB false) dZero (phD m.val) = some (phD m.val, cB false) ∧ F_spec_l2C_mul (cB false) hD (phD m.val) = some (tw m.val hD, cB false) ∧
  F_spec_l2Neg (phD m.val) = some (dNeg (phD m.val)) ∧ F_spec_l2C_add (cB false) dZero (dNeg (phD m.val)) = some (dNeg (phD m.val), cB false) ∧ F_spec_l2C_mul (cB false) hD (dNeg (phD m.val)) = some (tw (m.val + 4) hD, cB false) := by decide +kernel
theorem add_small : F_spec_l2C_add (cB false) dOne dZero = some (dOne, cB false) ∧ F_spec_l2C_add (cB false) dZero dZero = some (dZero, cB false) ∧ F_spec_l2C_mul (cB false) hD dOne = some (hD, cB false) ∧ F_spec_l2C_mul (cB false) hD dZero = some (dZero, cB false) ∧ F_spec_l2Neg dZero = some dZero := by decide +kernel
theorem ug {R i k : Nat} (hi : i < R) (hk : k < R) : (unitL R).getD (i * R + k) dZero = if i = k then dOne else dZero := unit_get hi hk
theorem two_set {R x y k : Nat} {Cells : List TDyadic} (hc : Cells.length = R * R) (hx : x < R) (hy : y < R) (hk : k < R) (hxy : x ≠ y) {B : Bool → Bool → TDyadic} {v1 v2 : TDyadic} (h1 : v1 = emC x y B x k) (h2 : v2 = emC x y B y k) : ((Cells.set (x * R + k) v1).set (y * R + k) v2).length = R * R ∧ ∀ a b, a < R → b < R → ((Cells.set (x * R + k) v1).set (y * R + k) v2).getD (a * R + b) dZero = if b = k ∧ (a = x ∨ a = y) then emC x y B a b else Cells.getD (a * R + b) dZero := by
 have gx := ix_lt hx hk
 have gy := ix_lt hy hk
 refine ⟨by rw [List.length_set, List.length_set]; exact hc, fun a b ha hb => ?_⟩
 rw [set_get (by rw [List.length_set]; omega), set_get (by omega)]
 by_cases e1 : a = y ∧ b = k
 ·obtain ⟨rfl, rfl⟩ := e1
  rw [if_pos rfl, if_pos ⟨rfl, .inr rfl⟩, h2]
 ·have n1 : ¬ a * R + b = y * R + k := fun h => e1 (rc_inj hb hk h)
  rw [if_neg n1]
  by_cases e2 : a = x ∧ b = k
  ·obtain ⟨rfl, rfl⟩ := e2
   rw [if_pos rfl, if_pos ⟨rfl, .inl rfl⟩, h1]
  ·have n2 : ¬ a * R + b = x * R + k := fun h => e2 (rc_inj hb hk h)
   rw [if_neg n2, if_neg (by omega)]
theorem lev_h {R i j m : Nat} (hR : LvN R) (hij : i < j) (hj : j < R) (hm : m < 8) : F_spec_l2C_level (Tl2C.mk false) (TMatrix.mk R R (unitL R)) (TTwoLevel.mk 3 (i : Int) (j : Int) (m : Int)) = some (TMatrix.mk R R (emL R i j (bH m)), Tl2C.mk false) := by
 have hle := lvn_le hR
 have hi : i < R := by omega
 refine level_unit hR (blk_h hm) fun k Cells hk hc hcol => ?_
 obtain ⟨p1, p2, p3, p4, p5, p6, p7⟩ := mul_one_p ⟨m, hm⟩
 obtain ⟨q1, q2, q3, q4, q5⟩ := add_small
 simp only at p1 p2 p3 p4 p5 p6 p7
 have ui := ug (R := R) hi hk
 have uj := ug (R := R) hj hk
 by_cases k1 : k = i
 ·subst k1
  rw [if_pos rfl] at ui
  rw [if_neg (by omega)] at uj
  refine ⟨_, step3 (by omega) (by omega) (unit_len R) hc hi hj hk hm (by rw [uj]; exact p2) (by rw [ui]; exact q1) q3 q5 (by rw [ui]; exact q1) q3, two_set hc hi hj hk (by omega) ?_ ?_⟩
  ·unfold emC bH
   rw [if_pos ⟨.inl rfl, .inl rfl⟩, decide_eq_false (show ¬ k = j by omega)]; rfl
  ·unfold emC bH
   rw [if_pos ⟨.inr rfl, .inl rfl⟩, decide_eq_false (show ¬ k = j by omega)]; rfl
 ·by_cases k2 : k = j
  ·subst k2
   rw [if_neg (by omega)] at ui
   rw [if_pos rfl] at uj
   refine ⟨_, step3 (by omega) (by omega) (unit_len R) hc hi hj hk hm (by rw [uj]; exact p1) (by rw [ui]; exact p3) p4 p5 (by rw [ui]; exact p6) p7, two_set hc hi hj hk (by omega) ?_ ?_⟩
   ·unfold emC bH
    rw [if_pos ⟨.inl rfl, .inr rfl⟩, decide_eq_false (show ¬ i = k by omega), decide_eq_true rfl]; rfl
   ·unfold emC bH
    rw [if_pos ⟨.inr rfl, .inr rfl⟩, decide_eq_true rfl]; rfl
  ·rw [if_neg (by omega)] at ui
   rw [if_neg (by omega)] at uj
   refine ⟨_, step3 (by omega) (by omega) (unit_len R) hc hi hj hk hm (by rw [uj]; exact p2) (by rw [ui]; exact q2) q4 q5 (by rw [ui]; exact q2) q4, two_set hc hi hj hk (by omega) ?_ ?_⟩
   ·unfold emC
    rw [if_neg (by omega), if_neg (by omega)]
   ·unfold emC
    rw [if_neg (by omega), if_neg (by omega)]
theorem emC_in {x y : Nat} {B : Bool → Bool → TDyadic} {a b : Nat} (ha : a = x ∨ a = y) (hb : b = x ∨ b = y) : emC x y B a b = B (decide (a = y)) (decide (b = y)) := if_pos ⟨ha, hb⟩
theorem emC_out {x y : Nat} {B : Bool → Bool → TDyadic} {a b : Nat} (h : ¬ ((a = x ∨ a = y) ∧ (b = x ∨ b = y))) : emC x y B a b = if a = b then dOne else dZero := if_neg h
theorem lev_x {R i j : Nat} (hR : LvN R) (hij : i < j) (hj : j < R) : F_spec_l2C_level (Tl2C.mk false) (TMatrix.mk R R (unitL R)) (TTwoLevel.mk 2 (i : Int) (j : Int) 0) = some (TMatrix.mk R R (emL R i j bX), Tl2C.mk false) := by
 have hle := lvn_le hR
 have hi : i < R := by omega
 refine level_unit hR blk_x fun k Cells hk hc hcol => ?_
 obtain ⟨p1, p2, _⟩ := mul_one_p 0
 have ui := ug (R := R) hi hk
 have uj := ug (R := R) hj hk
 have ph0 : phD ((0 : Fin 8).val : Int) = dOne := by decide +kernel
 rw [ph0] at p1 p2
 have e1 : F_spec_l2C_mul (cB false) (phD ((0 : Nat) : Int)) ((unitL R).getD (j * R + k) dZero) = some ((unitL R).getD (j * R + k) dZero, cB false) := by
  rw [show phD ((0 : Nat) : Int) = dOne from ph0, uj]
  split
  ·exact p1
  ·exact p2
 refine ⟨_, step2 (m := 0) (by omega) (by omega) (unit_len R) hc hi hj hk (by decide) e1, two_set hc hi hj hk (by omega) ?_ ?_⟩
 ·rw [uj]
  by_cases hin : k = i ∨ k = j
  ·rw [emC_in (.inl rfl) hin, decide_eq_false (show ¬ i = j by omega)]
   by_cases h : j = k
   ·rw [if_pos h, decide_eq_true h.symm]; rfl
   ·rw [if_neg h, decide_eq_false (show ¬ k = j by omega)]; rfl
  ·rw [emC_out (by omega), if_neg (by omega), if_neg (by omega)]
 ·rw [ui]
  by_cases hin : k = i ∨ k = j
  ·rw [emC_in (.inr rfl) hin, decide_eq_true rfl]
   by_cases h : i = k
   ·rw [if_pos h, decide_eq_false (show ¬ k = j by omega)]; rfl
   ·rw [if_neg h, decide_eq_true (show k = j by omega)]; rfl
  ·rw [emC_out (by omega), if_neg (by omega), if_neg (by omega)]
theorem lev_w {R i y m : Nat} (hR : LvN R) (hi : i < R) (hy : y < R) (hyi : y ≠ i) (hm : 0 < m ∧ m < 8) : F_spec_l2C_level (Tl2C.mk false) (TMatrix.mk R R (unitL R)) (TTwoLevel.mk 1 (i : Int) 0 (m : Int)) = some (TMatrix.mk R R (emL R i y (bW m)), Tl2C.mk false) := by
 have hle := lvn_le hR
 refine level_unit hR (blk_w hm.2) fun k Cells hk hc hcol => ?_
 obtain ⟨p1, p2, _⟩ := mul_one_p ⟨m, hm.2⟩
 simp only at p1 p2
 have ui := ug (R := R) hi hk
 have u0 := ug (R := R) (i := 0) (by omega) hk
 have hmul : ∀ p : Prop, ∀ [Decidable p], F_spec_l2C_mul (cB false) (phD (m : Int)) (if p then dOne else dZero) = some ((if p then phD (m : Int) else dZero), cB false) := fun p _ => by
  split
  ·exact p1
  ·exact p2
 have e1 := hmul (0 = k)
 have e2 := hmul (i = k)
 rw [← u0] at e1
 rw [← ui] at e2
 have gi := ix_lt hi hk
 refine ⟨_, step1 (j := 0) (by omega) (by omega) (unit_len R) hc hi (by omega) hk hm.2 e1 e2, by rw [List.length_set]; exact hc, fun a b ha hb => ?_⟩
 rw [set_get (by omega)]
 by_cases e : a = i ∧ b = k
 ·obtain ⟨rfl, rfl⟩ := e
  rw [if_pos rfl, if_pos (show b = b ∧ (a = a ∨ a = y) from ⟨rfl, .inl rfl⟩)]
  by_cases h : a = b
  ·subst h
   rw [if_pos rfl, emC_in (.inl rfl) (.inl rfl), decide_eq_false (show ¬ a = y by omega)]; rfl
  ·rw [if_neg h]
   by_cases hin : b = a ∨ b = y
   ·rw [emC_in (.inl rfl) hin, decide_eq_false (show ¬ a = y by omega), decide_eq_true (show b = y by omega)]; rfl
   ·rw [emC_out (by omega), if_neg h]
 ·have n1 : ¬ a * R + b = i * R + k := fun h => e (rc_inj hb hk h)
  rw [if_neg n1]
  by_cases e3 : b = k ∧ (a = i ∨ a = y)
  ·obtain ⟨rfl, e4⟩ := e3
   have ay : a = y := by omega
   subst ay
   rw [hcol a ha, if_pos (show b = b ∧ (a = i ∨ a = a) from ⟨rfl, .inr rfl⟩)]
   by_cases hin : b = i ∨ b = a
   ·rw [emC_in (.inr rfl) hin]
    by_cases h : a = b
    ·rw [if_pos h, decide_eq_true rfl, decide_eq_true h.symm]; rfl
    ·rw [if_neg h, decide_eq_true rfl, decide_eq_false (show ¬ b = a by omega)]; rfl
   ·rw [emC_out (by omega)]
  ·rw [if_neg e3]

theorem tl_spec {R : Nat} (hR : LvN R) {t : TTwoLevel} {L : TMatrix} (hv : F_spec_l11Valid R t = some true) (h : F_spec_l2C_level (Tl2C.mk false) (TMatrix.mk R R (unitL R)) t = some (L, Tl2C.mk false)) : F_spec_TwoLevelMatrix R t = some (L, true) := by
 unfold F_spec_TwoLevelMatrix
 rw [hv]
 simp only [Option.bind_some, Bool.not_true, cond_false]
 rw [unit_spec R (dim_mem (lvn_dim hR))]
 simp only [Option.bind_some]
 rw [h]
 rfl
theorem vtl_spec {R : Nat} (hR : LvN R) {t : TTwoLevel} (h : F_impl_IsValidTwoLevel R t = some true) : F_spec_l11Valid R t = some true := by
 have hle := lvn_le hR
 obtain ⟨b, h1, h2, _⟩ := valid_both (R : Int) (by omega) t
 rw [h] at h1
 have := Option.some.inj h1
 subst this
 unfold F_spec_IsValidTwoLevel at h2
 cases hv : F_spec_l11Valid R t with
 | none => rw [hv] at h2; cases h2
 | some b => rw [hv] at h2; exact h2
def lawSt (R : Nat) (t : TTwoLevel) (l : List TDyadic) (x : List TDyadic) : Prop := ∃ L, F_spec_TwoLevelMatrix R t = some (TMatrix.mk R R L, true) ∧ F_spec_MulMatrix (TMatrix.mk R R L) (TMatrix.mk R 1 l) = some (TMatrix.mk R 1 x, true)
theorem mulS {R : Nat} (hR : LvN R) {L l x : List TDyadic} (oL : okD L) (lL : L.length = R * R) (ol : okD l) (ll : l.length = R) (h : mmO L l R R 1 = some x) : F_spec_MulMatrix (TMatrix.mk R R L) (TMatrix.mk R 1 l) = some (TMatrix.mk R 1 x, true) := by
 have hle := lvn_le hR
 have hRR : R * R ≤ 8 * 8 := Nat.mul_le_mul hle.2 hle.2
 obtain ⟨M, ok, h1, h2, _⟩ := mulM_both (A := TMatrix.mk R R L) (B := TMatrix.mk R 1 l) (by simp only; omega) (by simp only; omega)
 have := (im_mul (R := R) (K := R) (C := 1) (m_make (lvn_dim hR) (lvn_dim hR) lL oL) (m_make (C := 1) (lvn_dim hR) (by decide) (by omega) ol)).1
 rw [h] at this
 rw [show F_impl_MulMatrix (TMatrix.mk R R L) (TMatrix.mk R 1 l) = _ from this] at h1
 rw [h2, ← h1]; rfl
theorem st_law {R : Nat} {k : Int} {l : List TDyadic} (hR : LvN R) (h : ColS R k l) (hk : 1 ≤ k ∧ k ≤ 30) {i j m : Nat} (hij : i < j) (hj : j < R) (hm : m < 8) : lawSt R (TTwoLevel.mk 3 (i : Int) (j : Int) (m : Int)) l (stL l i j m) := by
 obtain ⟨_, o1, l1, g1⟩ := em_all (x := i) (y := j) (blk_h hm) R
 obtain ⟨_, o2, l2, g2⟩ := tl_all R i j m
 have e : emL R i j (bH m) = tlL R i j m := grid_ext l1 l2 fun a b ha hb => by rw [g1 a b ha hb, g2 a b ha hb, em_tl hij]
 refine ⟨emL R i j (bH m), tl_spec hR (vtl_spec hR (tl_valid hR hij hj hm)) (lev_h hR hij hj hm), ?_⟩
 rw [e]
 exact mulS hR o2 l2 h.ok h.len (mm_step hR h hk hij hj hm)
def vecL (R p : Nat) (z : TDyadic) : List TDyadic := (List.range R).map fun a => if a = p then z else dZero
theorem vec_len (R p : Nat) (z : TDyadic) : (vecL R p z).length = R := by unfold vecL; simp
theorem vec_get {R a : Nat} (ha : a < R) (p : Nat) (z : TDyadic) : (vecL R p z).getD a dZero = if a = p then z else dZero := by
 unfold vecL
 rw [List.getD_eq_getElem?_getD, List.getElem?_map, List.getElem?_range ha]; rfl
theorem vec_ok {z : TDyadic} (hz : dOk z = true) (R p : Nat) : okD (vecL R p z) := fun w hw => by
 unfold vecL at hw
 obtain ⟨a, _, rfl⟩ := List.mem_map.1 hw
 split
 ·exact hz
 ·exact dZero_ok
theorem vec_eq {R p : Nat} {z : TDyadic} {l : List TDyadic} (hl : l.length = R) (hp : p < R) (h1 : l.getD p dZero = z) (h2 : ∀ q, q < R → q ≠ p → l.getD q dZero = dZero) : l = vecL R p z := by
 apply List.ext_getElem (by rw [vec_len, hl])
 intro a ha hb
 have hv := vec_get (R := R) (a := a) (by omega) p z
 rw [List.getD_eq_getElem?_getD, List.getElem?_eq_getElem hb] at hv
 have hv : (vecL R p z)[a] = _ := hv
 rw [hv]
 have hg : l.getD a dZero = l[a] := by rw [List.getD_eq_getElem?_getD, List.getElem?_eq_getElem ha]; rfl
 by_cases hap : a = p
 ·subst hap
  rw [if_pos rfl, ← h1, hg]
 ·rw [if_neg hap, ← hg, h2 a (by omega) hap]
theorem vec_mul {R x y p s : Nat} (hR : LvN R) {B : Bool → Bool → TDyadic} (hB : BlK B) {z z' : TDyadic} (hz : Bd 2 16 z) (hz' : dOk z' = true) (hp : p < R)
  (hv : ∀ a, a < R → eMul (vOf (emC x y B a p)) (vOf z) = rIt 60 (vOf (if a = s then z' else dZero))) : mmO (emL R x y B) (vecL R p z) R R 1 = some (vecL R s z') := by
 have hle := lvn_le hR
 obtain ⟨_, o1, l1, g1⟩ := em_all (x := x) (y := y) hB R
 have g0 : ∀ q, q < R → (vecL R p z).getD (q * 1 + 0) dZero = if q = p then z else dZero := fun q hq => by rw [Nat.mul_one, Nat.add_zero, vec_get hq]
 obtain ⟨L, hL⟩ : ∃ L, mmO (emL R x y B) (vecL R p z) R R 1 = some L := by
  refine grid_totC fun a b ha hb => dot_mid (by omega) (fun q hq => ?_) (fun q hq => ?_)
  ·rw [g1 a q ha hq]; exact emC_bd hB a q
  ·obtain rfl : b = 0 := by omega
   rw [g0 q hq]
   split
   ·exact hz
   ·exact bd_zero 2 (by decide)
 obtain ⟨e1, e2, e3⟩ := mm_val o1 (vec_ok hz.1 R p) hL
 rw [hL]
 refine congrArg some (m_ext e1 (by rw [vec_len, Nat.mul_one]) e2 (vec_ok hz' R s) fun a b ha hb => it_inj 60 ?_)
 obtain rfl : b = 0 := by omega
 rw [e3 a 0 ha hb]
 rw [eSum_one (s := p) hp (fun q hq q1 => by
  unfold vM
  rw [g0 q hq, if_neg q1, vz, eMul_zero])]
 unfold vM
 rw [g0 p hp, if_pos rfl, g1 a p ha hp, hv a ha, Nat.mul_one, Nat.add_zero, vec_get ha]
theorem ph_bd : ∀ e : Fin 8, Bd 2 16 (phD (e.val : Int)) := by unfold Bd; decide +kernel
theorem ph_undo : ∀ e : Fin 8, 0 < e.val → eMul (vOf (phD ((8 - e.val : Nat) : Int))) (vOf (phD (e.val : Int))) = rIt 60 (vOf dOne) := by decide +kernel
theorem x_law {R p f e : Nat} (hR : LvN R) (hp : p < R) (hf : f < R) (hpf : p ≠ f) (he : e < 8) : lawSt R (TTwoLevel.mk 2 (if (f : Int) < (p : Int) then (f : Int) else (p : Int)) (if (p : Int) < (f : Int) then (f : Int) else (p : Int)) 0) (vecL R p (phD (e : Int))) (vecL R f (phD (e : Int))) := by
 have key : ∀ i j : Nat, i < j → j < R → (p = i ∧ f = j ∨ p = j ∧ f = i) → lawSt R (TTwoLevel.mk 2 (i : Int) (j : Int) 0) (vecL R p (phD (e : Int))) (vecL R f (phD (e : Int))) := fun i j hij hj hc => by
  obtain ⟨_, o1, l1, _⟩ := em_all (x := i) (y := j) blk_x R
  have hz := ph_bd ⟨e, he⟩
  refine ⟨emL R i j bX, tl_spec hR (vtl_spec hR (x_valid hR hij hj)) (lev_x hR hij hj), mulS hR o1 l1 (vec_ok hz.1 R p) (vec_len R p _) (vec_mul hR blk_x hz hz.1 hp fun a ha => ?_)⟩
  have hx : emC i j bX a p = if a = f then dOne else dZero := by
   by_cases hin : a = i ∨ a = j
   ·rw [emC_in hin (by omega)]
    unfold bX
    by_cases haf : a = f
    ·rw [if_pos haf, show (decide (a = j) != decide (p = j)) = true by rw [bne_iff_ne, Ne, decide_eq_decide]; omega]; rfl
    ·rw [if_neg haf, show decide (a = j) = decide (p = j) by rw [decide_eq_decide]; omega, bne_self_eq_false]; rfl
   ·rw [emC_out (by omega), if_neg (by omega), if_neg (by omega)]
  rw [hx]
  by_cases haf : a = f
  ·rw [if_pos haf, if_pos haf, vone, it_mul, one_mul']
  ·rw [if_neg haf, if_neg haf, vz, zero_mul', it_z]
 by_cases h : p < f
 ·rw [if_neg (by omega), if_pos (by omega)]
  exact key p f h hf (.inl ⟨rfl, rfl⟩)
 ·rw [if_pos (by omega), if_neg (by omega)]
  exact key f p (by omega) hp (.inr ⟨rfl, rfl⟩)
theorem w_law {R f e : Nat} (hR : LvN R) (hf : f < R) (he : e < 8) (h0 : 0 < e) : lawSt R (TTwoLevel.mk 1 (f : Int) 0 (8 - (e : Int))) (vecL R f (phD (e : Int))) (vecL R f dOne) := by
 have hle := lvn_le hR
 obtain ⟨y, hy, hyi⟩ : ∃ y, y < R ∧ y ≠ f := by
  by_cases h : f = 0
  ·exact ⟨1, by omega, by omega⟩
  ·exact ⟨0, by omega, by omega⟩
 rw [show (8 - (e : Int)) = ((8 - e : Nat) : Int) by omega]
 have hm : 0 < 8 - e ∧ 8 - e < 8 := by omega
 obtain ⟨_, o1, l1, _⟩ := em_all (x := f) (y := y) (blk_w hm.2) R
 have hz := ph_bd ⟨e, he⟩
 refine ⟨emL R f y (bW (8 - e)), tl_spec hR (vtl_spec hR (w_valid hR hf hm)) (lev_w hR hf hy hyi hm), mulS hR o1 l1 (vec_ok hz.1 R f) (vec_len R f _) (vec_mul hR (blk_w hm.2) hz one_bd2.1 hf fun a ha => ?_)⟩
 by_cases haf : a = f
 ·subst haf
  rw [emC_in (.inl rfl) (.inl rfl), decide_eq_false (show ¬ a = y by omega), if_pos rfl]
  exact ph_undo ⟨e, he⟩ h0
 ·rw [if_neg haf]
  have : emC f y (bW (8 - e)) a f = dZero := by
   by_cases hin : a = f ∨ a = y
   ·rw [emC_in hin (.inl rfl), decide_eq_true (show a = y by omega), decide_eq_false (show ¬ f = y by omega)]; rfl
   ·rw [emC_out (by omega), if_neg haf]
  rw [this, vz, zero_mul', it_z]
def Pth (R : Nat) : List TTwoLevel → List TDyadic → List TDyadic → Prop
 | [], l, x => l = x
 | t :: ts, l, x => ∃ y, lawSt R t l y ∧ Pth R ts y x
theorem pth_app {R : Nat} : ∀ {ts us : List TTwoLevel} {l y x : List TDyadic}, Pth R ts l y → Pth R us y x → Pth R (ts ++ us) l x
 | [], _, _, _, _, h1, h2 => by cases h1; exact h2
 | _ :: _, _, _, _, _, ⟨z, hz, h1⟩, h2 => ⟨z, hz, pth_app h1 h2⟩
theorem fin_pth {R p f e : Nat} (hR : LvN R) (hp : p < R) (hf : f < R) (he : e < 8) : Pth R (finL p (f : Int) e) (vecL R p (phD (e : Int))) (vecL R f dOne) := by
 unfold finL
 refine pth_app (y := vecL R f (phD (e : Int))) ?_ ?_
 ·by_cases h : (p : Int) = (f : Int)
  ·rw [if_pos h, show p = f by omega]; rfl
  ·rw [if_neg h]
   exact ⟨_, x_law hR hp hf (by omega) he, rfl⟩
 ·by_cases h0 : 0 < e
  ·rw [if_pos h0]
   exact ⟨_, w_law hR hf he h0, rfl⟩
  ·obtain rfl : e = 0 := by omega
   rw [if_neg h0, show phD ((0 : Nat) : Int) = dOne by decide +kernel]; rfl
theorem impl_run {R : Nat} (hR : LvN R) (from_ : Int) : ∀ (n q : Nat) (l : List TDyadic) (out : List TTwoLevel), ColS R 30 l → meaL R l < n → n ≤ q → out.length + n ≤ 900 →
  (∃ ts l', Pth R ts l l' ∧ ColS R 30 l' ∧ mxL l' = 0 ∧ ts.length ≤ n ∧ ∀ f r, F_impl_finishing (TMatrix.mk R 1 l') from_ = some (f, true) → f.length ≤ 10 → r = out ++ ts ++ f → whX (F_impl_ReduceColumn_l1 from_) q (R, 1, l, out) = some (.inr (r, true))) ∨
  (whX (F_impl_ReduceColumn_l1 from_) q (R, 1, l, out) = some (.inr ([], false)))
 | 0, _, _, _, _, h, _, _ => absurd h (Nat.not_lt_zero _)
 | n + 1, q, l, out, hc, hm, hq, ho => by
  obtain ⟨q, rfl⟩ : ∃ r, q = r + 1 := ⟨q - 1, by omega⟩
  rcases round_impl hR hc from_ (out := out) (by omega) with ⟨h0, e⟩ | ⟨h0, hx, e⟩ | ⟨h0, i, j, m, hx, hij, hj, hm8, g1, g2, g3, hc', hmea, e⟩
  ·refine .inl ⟨[], l, rfl, hc, h0, by simp, fun f r hf hl hr => ?_⟩
   rw [List.append_nil] at hr
   subst hr
   refine whX_rt3 ?_
   rw [e, hf]
   simp only [Option.bind_some, Bool.not_true, cond_false]
   rw [chk_t (by omega)]
  ·exact .inr (whX_rt3 e)
  ·rw [whX_nx3 e]
   rcases impl_run hR from_ n q (stL l i j m) (out ++ [TTwoLevel.mk 3 i j m]) hc' (by omega) (by omega) (by simp; omega) with ⟨ts, l', p1, p2, p3, p4, p5⟩ | h
   ·refine .inl ⟨TTwoLevel.mk 3 i j m :: ts, l', ⟨_, st_law hR g1 ⟨g2, g3⟩ hij hj hm8, p1⟩, p2, p3, by simp; omega, fun f r hf hl hr => p5 f r hf hl ?_⟩
    rw [hr]; simp
   ·exact .inr h
theorem mea_leI {R : Nat} (hR : R ≤ 8) {l : List TDyadic} (h : ColS R 30 l) : meaL R l ≤ 526 := by
 have h1 : mxL l ≤ 30 := mx_lt (by decide) h.exp
 have h2 : muL R (mxL l) l ≤ 2 * R := nSum_le R (fun p _ => wt_le _)
 unfold meaL
 omega
/-- What the reduction gives: nothing, or operators that lead to the basis vector. -/
theorem red_path {R : Nat} {l : List TDyadic} (hR : LvN R) (hl : l.length = R) (ol : okD l) {f : Nat} (hf : f < R) : F_impl_ReduceColumn (TMatrix.mk R 1 l) f = some ([], false) ∨ ∃ ts, F_impl_ReduceColumn (TMatrix.mk R 1 l) f = some (ts, true) ∧ ts.length ≤ 1000 ∧ Pth R ts l (vecL R f dOne) := by
 have hle := lvn_le hR
 unfold F_impl_ReduceColumn
 rw [isc_good hR hl ol hf]
 simp only [Option.bind_some]
 unfold colO
 rcases start_eq (l := l) (f := f) (R := l.length) (by omega) with ⟨hz, e⟩ | ⟨hz, e⟩
 ·rw [e]
  cases hd : forN (dotS (fun k => l.getD k dZero) (fun k => dConj (l.getD k dZero))) l.length 0 dZero with
  | none => exact .inl rfl
  | some z =>
   by_cases hone : z = dOne
   ·subst hone
    rw [hl] at hd
    have hc := start_col hl ol hd
    have hmea := mea_leI hle.2 hc
    simp only [decide_true, Bool.not_true, cond_false]
    rcases impl_run hR f 600 fuel l [] hc (by omega) (Nat.le_of_lt (fuel_big (by omega))) (by simp) with ⟨ts, l', c0, c1, c2, c3, r2⟩ | r2
    ·obtain ⟨p, ex, hp, he, g1, g2⟩ := end_col c1 c2
     have hf2 : (finL p f ex).length ≤ 2 := by
      unfold finL
      by_cases h1 : (p : Int) = (f : Int) <;> by_cases h2 : 0 < ex <;> simp [h1, h2]
     rw [r2 _ _ (fin_impl c1.len hle.2 hp he g1 g2 f) (by omega) rfl]
     have hv := vec_eq c1.len hp g1 g2
     subst hv
     exact .inr ⟨_, rfl, by rw [List.nil_append, List.length_append]; omega, by rw [List.nil_append]; exact pth_app c0 (fin_pth hR hp hf he)⟩
    ·rw [r2]
     exact .inl rfl
   ·simp only [decide_eq_false hone]
    exact .inl rfl
 ·rw [e]
  exact .inl rfl
theorem red_tot (a0 : TMatrix) (a1 : Int) (hl : a0.Cells.length ≤ 1000000) : F_impl_ReduceColumn a0 a1 = some ([], false) ∨ ∃ (R f : Nat) (l : List TDyadic) (ts : List TTwoLevel), LvN R ∧ f < R ∧ a1 = f ∧ a0 = TMatrix.mk R 1 l ∧ F_impl_ReduceColumn a0 a1 = some (ts, true) ∧ ts.length ≤ 1000 ∧ Pth R ts l (vecL R f dOne) := by
 cases hm : mOk a0 with
 | false =>
  refine .inl ?_
  unfold F_impl_ReduceColumn F_impl_isColumn
  rw [impl_mgood a0 (by omega), hm]; rfl
 | true =>
  obtain ⟨R, C, l, rfl, d1, d2, b1, b2, ll, ol⟩ := m_parts hm
  simp only at hl
  by_cases hC : C = 1
  ·subst hC
   by_cases hR : LvN R
   ·have hle := lvn_le hR
    have e1 : IntKind.i64.wrap ((R : Int) - 1) = (R : Int) - 1 := wr (by omega)
    by_cases hf : 0 ≤ a1 ∧ a1 ≤ (R : Int) - 1
    ·obtain ⟨f, rfl⟩ : ∃ f : Nat, a1 = f := ⟨a1.toNat, by omega⟩
     rcases red_path hR (by omega) ol (f := f) (by omega) with h | ⟨ts, h1, h2, h3⟩
     ·exact .inl h
     ·exact .inr ⟨R, f, l, ts, hR, by omega, rfl, rfl, h1, h2, h3⟩
    ·have hb : (decide (0 ≤ a1) && decide (a1 ≤ (R : Int) - 1)) = false := by
      rw [Bool.and_eq_false_iff, decide_eq_false_iff_not, decide_eq_false_iff_not]; omega
     refine .inl ?_
     unfold F_impl_ReduceColumn F_impl_isColumn
     rw [impl_mgood _ (by simp only; omega), hm]
     simp only [Option.bind_some, Int.natCast_one, bne_self_eq_false, Bool.not_true, Bool.or_self, Bool.not_false, gb, cond_true]
     rw [lvn_impl hR]
     simp only [Option.bind_some, Bool.not_true, Bool.or_self, Bool.not_false, cond_true]
     unfold F_impl_within
     rw [e1, hb]; rfl
   ·have hb : F_impl_isLevelDim (R : Int) = some false := by
     unfold F_impl_isLevelDim
     unfold LvN at hR
     rw [show (((R : Int) == 2) || ((R : Int) == 4) || ((R : Int) == 8)) = false by simp; omega]
    refine .inl ?_
    unfold F_impl_ReduceColumn F_impl_isColumn
    rw [impl_mgood _ (by simp only; omega), hm]
    simp only [Option.bind_some, Int.natCast_one, bne_self_eq_false, Bool.not_true, Bool.or_self, Bool.not_false, gb, cond_true]
    rw [hb]; rfl
  ·have hb : ((C : Int) != 1) = true := by simp; omega
   refine .inl ?_
   unfold F_impl_ReduceColumn F_impl_isColumn
   rw [impl_mgood _ (by simp only; omega), hm]
   simp only [Option.bind_some, hb, Bool.or_true, Bool.not_true, gb, cond_false, Bool.true_or, cond_true]
   rfl

theorem enS_small : ∀ (k : Fin 9) (a b : Fin 2), 1 ≤ k.val → (((F_spec_l6One (k.val : Int)).bind fun l => getI l (IntKind.i64.wrap (IntKind.i64.wrap (2 * (a.val : Int)) + (b.val : Int))))).isSome = true ∧ dOk ((((F_spec_l6One (k.val : Int)).bind fun l => getI l (IntKind.i64.wrap (IntKind.i64.wrap (2 * (a.val : Int)) + (b.val : Int))))).getD dZero) = true := by decide +kernel
theorem phS_small : ∀ k : Fin 9, F_spec_l2Power (k.val : Int) = some (phD k.val) ∧ dOk (phD k.val) = true := by decide +kernel
theorem cell_tot {n : Nat} (hn : 1 ≤ n ∧ n ≤ 5) {g : TGate} (hg : gOk n g = true) {i j : Nat} (hi : i < 32) (hj : j < 32) : ∃ z, F_spec_l6Cell n g i j = some z ∧ dOk z = true := by
 obtain ⟨p0, o0⟩ := phS_small 0
 obtain ⟨p1, o1⟩ := phS_small 1
 obtain ⟨p4, o4⟩ := phS_small 4
 have p0 : F_spec_l2Power 0 = some (phD 0) := p0
 have p1 : F_spec_l2Power 1 = some (phD 1) := p1
 have p4 : F_spec_l2Power 4 = some (phD 4) := p4
 unfold F_spec_l6Cell
 rw [p0]
 simp only [Option.bind_some]
 rcases gOk_cases hg with ⟨k1, k2, a1, a2⟩ | ⟨k1, k2, a1, a2, b1, b2, hab⟩ | hk
 ·obtain ⟨k, hk⟩ : ∃ k : Nat, g.Kind = k := ⟨g.Kind.toNat, by omega⟩
  obtain ⟨a, ha⟩ : ∃ a : Nat, g.A = a := ⟨g.A.toNat, by omega⟩
  have e12 : (g.Kind == 12) = false := by rw [hk]; exact decide_eq_false (by omega)
  have e9 : (g.Kind == 9) = false := by rw [hk]; exact decide_eq_false (by omega)
  have e10 : (g.Kind == 10) = false := by rw [hk]; exact decide_eq_false (by omega)
  have e11 : (g.Kind == 11) = false := by rw [hk]; exact decide_eq_false (by omega)
  have hs : (n : Int) - 1 - a = ((n - 1 - a : Nat) : Int) := by omega
  simp only [e12, e9, e10, e11, cond_false, Option.bind_some]
  rw [ha, wr (a := (n : Int) - 1) (by omega), wr (a := (n : Int) - 1 - a) (by omega), wru (a := (n : Int) - 1 - a) (by omega), chk_t (by omega), hs,
   an_small ⟨i, hi⟩ ⟨j, hj⟩ ⟨n - 1 - a, by omega⟩]
  simp only
  simp only [gb, sp_bit hn.2 (show a < n by omega) hi, sp_bit hn.2 (show a < n by omega) hj]
  obtain ⟨w2, w3⟩ := enS_small ⟨k, by omega⟩ ⟨bi i (n - 1 - a), bi_lt _ _⟩ ⟨bi j (n - 1 - a), bi_lt _ _⟩ (by simp only; omega)
  simp only at w2 w3
  obtain ⟨z, hz⟩ := Option.isSome_iff_exists.1 w2
  rw [hz] at w3
  obtain ⟨l, w4, w5⟩ := Option.bind_eq_some_iff.1 hz
  by_cases hij : i = j
  ·rw [decide_eq_true hij]
   simp only [Bool.true_or, Bool.not_true, cond_false, cond_true, Option.bind_some]
   rw [hk, w4]
   simp only [Option.bind_some, w5, orR]
   exact ⟨_, rfl, w3⟩
  ·rw [decide_eq_false hij]
   simp only [Bool.false_or, Bool.not_false, cond_true, Option.bind_some]
   by_cases hf : fl i (n - 1 - a) = j
   ·rw [decide_eq_true hf]
    simp only [Bool.not_true, cond_false, cond_true]
    rw [hk, w4]
    simp only [Option.bind_some, w5, orR]
    exact ⟨_, rfl, w3⟩
   ·rw [decide_eq_false hf]
    simp only [Bool.not_false, cond_false, cond_true, Option.bind_some, orR]
    exact ⟨_, rfl, dZero_ok⟩
 ·obtain ⟨a, ha⟩ : ∃ a : Nat, g.A = a := ⟨g.A.toNat, by omega⟩
  obtain ⟨b, hb⟩ : ∃ b : Nat, g.B = b := ⟨g.B.toNat, by omega⟩
  have hs : (n : Int) - 1 - a = ((n - 1 - a : Nat) : Int) := by omega
  have hs' : (n : Int) - 1 - b = ((n - 1 - b : Nat) : Int) := by omega
  have e12 : (g.Kind == 12) = false := decide_eq_false (by omega)
  have c1 := sp_bit hn.2 (show a < n by omega) hj
  have c2 := sp_bit hn.2 (show b < n by omega) hj
  have hne : n - 1 - a ≠ n - 1 - b := by omega
  rw [e12, ha, hb, c1, c2, wr (a := (n : Int) - 1) (by omega), wr (a := (n : Int) - 1 - a) (by omega), wru (a := (n : Int) - 1 - a) (by omega), wr (a := (n : Int) - 1 - b) (by omega), wru (a := (n : Int) - 1 - b) (by omega), hs, hs']
  simp only [cond_false, cond_true, Option.bind_some, gb]
  have : g.Kind = 9 ∨ g.Kind = 10 ∨ g.Kind = 11 := by omega
  rcases this with hk | hk | hk
  ·refine ⟨bif decide (i = if bi j (n - 1 - a) = 1 then fl j (n - 1 - b) else j) then phD 0 else dZero, ?_, sel_ok _ o0⟩
   rw [hk]
   simp only [show ((9 : Int) == 9) = true from rfl, cond_true, one_beq]
   by_cases h1 : bi j (n - 1 - a) = 1
   ·simp only [decide_eq_true h1, cond_true, if_pos h1]
    rw [chk_t (by omega), (fl_small ⟨j, hj⟩ ⟨n - 1 - b, by omega⟩).1]
    simp only [Option.bind_some, orR, ibeq]
    exact bsomeT
   ·simp only [decide_eq_false h1, cond_false, if_neg h1, Option.bind_some, orR, ibeq]
    exact bsomeT
  ·refine ⟨bif decide (i = j) then (if bi j (n - 1 - a) = 1 ∧ bi j (n - 1 - b) = 1 then phD 4 else phD 0) else dZero, ?_, sel_ok _ (by split; exact o4; exact o0)⟩
   rw [hk]
   simp only [show ((10 : Int) == 9) = false from rfl, show ((10 : Int) == 10) = true from rfl, cond_true, cond_false, one_beq]
   by_cases h1 : bi j (n - 1 - a) = 1
   ·by_cases h2 : bi j (n - 1 - b) = 1
    ·simp only [decide_eq_true h1, one_beq, decide_eq_true h2, cond_true, Option.bind_some, Bool.and_self, p4, orR, ibeq, if_pos (And.intro h1 h2)]
     exact bsomeT
    ·simp only [decide_eq_true h1, one_beq, decide_eq_false h2, cond_true, Option.bind_some, Bool.and_false, cond_false, orR, ibeq, if_neg (show ¬ (bi j (n - 1 - a) = 1 ∧ bi j (n - 1 - b) = 1) from fun h => h2 h.2)]
     exact bsomeT
   ·simp only [decide_eq_false h1, cond_false, Option.bind_some, Bool.false_and, orR, ibeq, if_neg (show ¬ (bi j (n - 1 - a) = 1 ∧ bi j (n - 1 - b) = 1) from fun h => h1 h.1)]
    exact bsomeT
  ·refine ⟨bif decide (i = if bi j (n - 1 - a) ≠ bi j (n - 1 - b) then fl (fl j (n - 1 - a)) (n - 1 - b) else j) then phD 0 else dZero, ?_, sel_ok _ o0⟩
   rw [hk]
   simp only [show ((11 : Int) == 9) = false from rfl, show ((11 : Int) == 10) = false from rfl, show ((11 : Int) == 11) = true from rfl, cond_true, cond_false, ibne]
   by_cases h1 : bi j (n - 1 - a) = bi j (n - 1 - b)
   ·simp only [decide_eq_true h1, Bool.not_true, cond_false, if_neg (show ¬ (bi j (n - 1 - a) ≠ bi j (n - 1 - b)) from fun h => h h1), Option.bind_some, orR, ibeq]
    exact bsomeT
   ·simp only [decide_eq_false h1, Bool.not_false, cond_true, if_pos h1]
    rw [chk_t (by omega), chk_t (by omega), (fl_small ⟨j, hj⟩ ⟨n - 1 - a, by omega⟩).1]
    have hl := (fl_small ⟨j, hj⟩ ⟨n - 1 - a, by omega⟩).2
    rw [(fl_small ⟨fl j (n - 1 - a), hl⟩ ⟨n - 1 - b, by omega⟩).1]
    simp only [Option.bind_some, orR, ibeq]
    exact bsomeT
 ·have e12 : (g.Kind == 12) = true := decide_eq_true hk
  simp only [e12, cond_true, p1, Option.bind_some, orR, ibeq]
  cases decide (i = j) with
  | true => exact ⟨_, rfl, o1⟩
  | false => exact ⟨_, rfl, dZero_ok⟩
theorem gate_tot {n : Nat} (hn : 1 ≤ n ∧ n ≤ 5) {g : TGate} (hg : gOk n g = true) : ∃ L, F_spec_l6Gate n g = some (TMatrix.mk (2 ^ n : Nat) (2 ^ n : Nat) L) ∧ okD L ∧ L.length = 2 ^ n * 2 ^ n := by
 have hp := pow_le hn
 unfold F_spec_l6Gate
 rw [chk_t (by rw [wru (by omega)]; omega), shl_u hn, Int.toNat_natCast, chk_t (by omega)]
 obtain ⟨L, h1, h2, h3⟩ := forN_inv (f := F_spec_l6Gate_l1 n g) (fun i l => okD l ∧ l.length = i * 2 ^ n) (2 ^ n) 0 [] ⟨fun _ h => (by cases h), by simp⟩ (fun i s _ hi hs => by
  obtain ⟨L, h1, h2, h3⟩ := forN_inv (f := F_spec_l6Gate_l2 n g i) (fun j l => okD l ∧ l.length = i * 2 ^ n + j) (2 ^ n) 0 s ⟨hs.1, by rw [hs.2]; rfl⟩ (fun j s _ hj hs => by
   obtain ⟨z, hz, oz⟩ := cell_tot hn hg (i := i) (j := j) (by omega) (by omega)
   unfold F_spec_l6Gate_l2
   rw [hz]
   simp only [Option.bind_some]
   have := grid_len (i := i) (j := j) (R := 2 ^ n) (C := 2 ^ n) (by omega) (by omega) hp.2 hp.2
   rw [chk_t (by omega)]
   exact ⟨_, rfl, okD_snoc hs.1 oz, by rw [List.length_append, hs.2]; rfl⟩)
  unfold F_spec_l6Gate_l1
  rw [shl_u hn, Int.toNat_natCast, chk_t (by omega), h1]
  exact ⟨_, rfl, h2, by rw [h3, Nat.add_mul]; omega⟩)
 rw [h1]
 exact ⟨L, rfl, h2, by rw [h3, Nat.zero_add]⟩
theorem op_tot {n : Nat} (hn : 1 ≤ n ∧ n ≤ 3) {gs : List TGate} (hg : gs.all (gOk n) = true) (hl : gs.length ≤ 100) : ∃ L, F_spec_l6Op (TCircuit.mk (n : Int) gs) = some (TMatrix.mk (2 ^ n : Nat) (2 ^ n : Nat) L) ∧ okD L ∧ L.length = 2 ^ n * 2 ^ n := by
 have hn5 : 1 ≤ n ∧ n ≤ 5 := ⟨hn.1, by omega⟩
 have hp := pow_le hn5
 unfold F_spec_l6Op
 simp only
 rw [chk_t (by rw [wru (by omega)]; omega), shl_u hn5, unit_spec _ (dim_mem (pow_dim hn5))]
 simp only [Option.bind_some]
 unfold F_spec_l2C_run
 simp only
 rw [chk_t (by omega)]
 obtain ⟨⟨b, Rw, Cl, L⟩, h1, h2, h3, h4, h5⟩ := forN_inv (f := F_spec_l2C_run_l1 (TCircuit.mk (n : Int) gs)) (fun _ s => s.2.1 = ((2 ^ n : Nat) : Int) ∧ s.2.2.1 = ((2 ^ n : Nat) : Int) ∧ okD s.2.2.2 ∧ s.2.2.2.length = 2 ^ n * 2 ^ n) gs.length 0 (false, ((2 ^ n : Nat) : Int), ((2 ^ n : Nat) : Int), unitL (2 ^ n)) ⟨rfl, rfl, unit_ok _, unit_len _⟩ (fun i s _ hi hs => by
  obtain ⟨b, Rw, Cl, L⟩ := s
  obtain ⟨t1, t2, t3, t4⟩ := hs
  simp only at t1 t2 t3 t4
  subst t1 t2
  have hi : i < gs.length := by omega
  have hgi : gOk n gs[i] = true := List.all_eq_true.1 hg _ (List.getElem_mem hi)
  unfold F_spec_l2C_run_l1
  simp only [getI_nat, List.getElem?_eq_getElem hi, Option.bind_some]
  cases b with
  | true => exact ⟨_, rfl, rfl, rfl, t3, t4⟩
  | false =>
   obtain ⟨G, g1, g2, g3⟩ := gate_tot hn5 hgi
   obtain ⟨z, b', u1, u2⟩ := sp_times (R := 2 ^ n) (K := 2 ^ n) (C := 2 ^ n) g2 t3 g3 t4 hp.2 hp.2 hp.2 false
   simp only [Bool.not_false, cond_true]
   rw [g1]
   simp only [Option.bind_some]
   rw [show F_spec_l2C_times (Tl2C.mk false) (TMatrix.mk (2 ^ n : Nat) (2 ^ n : Nat) G) (TMatrix.mk (2 ^ n : Nat) (2 ^ n : Nat) L) = _ from u1]
   exact ⟨_, rfl, rfl, rfl, u2.1.1, u2.1.2⟩)
 simp only at h2 h3 h4 h5
 subst h2 h3
 rw [h1]
 exact ⟨L, rfl, h4, h5⟩

theorem level_d (n : Int) (hn : n ≤ 1000) : Dr (fun c => F_spec_l1Cur_level c n) (fun _ => True) 20 := fun code a s k hb h0 h1 h2 => by
 unfold F_spec_l1Cur_level
 simp only
 obtain ⟨v1, a1, s1, e1, p1, q1, r1⟩ := pick_d n (by omega) code a s k hb h0 h1 (by omega)
 simp only at e1
 rw [e1]; simp only [Option.bind_some]
 obtain ⟨v2, a2, s2, e2, p2, q2, r2⟩ := pick_d n (by omega) code a1 s1 (k + 2) hb q1 r1 (by omega)
 simp only at e2
 rw [e2]; simp only [Option.bind_some]
 obtain ⟨v3, a3, s3, e3, p3, q3, r3⟩ := pick_d 3 (by omega) code a2 s2 (k + 2 + 2) hb q2 r2 (by omega)
 simp only at e3
 rw [e3]; simp only [Option.bind_some]
 obtain ⟨x4, e4⟩ : ∃ x, F_spec_l1Least v1 v2 = some x := by unfold F_spec_l1Least; cases decide (v1 < v2) <;> exact ⟨_, rfl⟩
 obtain ⟨x5, e5⟩ : ∃ x, F_spec_l1Most v1 v2 = some x := by unfold F_spec_l1Most; cases decide (v2 < v1) <;> exact ⟨_, rfl⟩
 rw [e4, e5]; simp only [Option.bind_some]
 obtain ⟨v6, a6, s6, e6, p6, q6, r6⟩ := pick_d 8 (by omega) code a3 s3 (k + 2 + 2 + 2) hb q3 r3 (by omega)
 simp only at e6
 rw [e6]; simp only [Option.bind_some]
 have mid : ∃ (a7 s7 J M : Int), ((bif ((IntKind.i64.wrap (1 + v3)) == 1) then ((F_spec_l1Cur_pick (Tl1Cur.mk code a6 s6) 7).bind fun (r_7, m5) =>
   some (m5.at_, m5.seed, 0, (IntKind.i64.wrap (1 + r_7)))) else (bif ((IntKind.i64.wrap (1 + v3)) == 2) then (some (a6, s6, x5, 0)) else (some (a6, s6, x5, v6)))) : Option (Int × Int × Int × Int)) = some (a7, s7, J, M) ∧ 0 ≤ a7 ∧ a7 ≤ ((k + 10 : Nat) : Int) := by
  cases (IntKind.i64.wrap (1 + v3)) == 1 with
  | true =>
   simp only [cond_true]
   obtain ⟨v7, a7, s7, e7, p7, q7, r7⟩ := pick_d 7 (by omega) code a6 s6 (k + 2 + 2 + 2 + 2) hb q6 r6 (by omega)
   simp only at e7
   rw [e7]
   exact ⟨_, _, _, _, rfl, q7, by first | omega | (simp only; omega)⟩
  | false =>
   simp only [cond_false]
   cases (IntKind.i64.wrap (1 + v3)) == 2 with
   | true => exact ⟨_, _, _, _, rfl, q6, by first | omega | (simp only; omega)⟩
   | false => exact ⟨_, _, _, _, rfl, q6, by first | omega | (simp only; omega)⟩
 obtain ⟨a7, s7, J, M, e7, q7, r7⟩ := mid
 rw [e7]; simp only [Option.bind_some]
 cases ((IntKind.i64.wrap (1 + v3)) != 1) && (v1 == v2) with
 | true =>
  simp only [cond_true]
  obtain ⟨v8, a8, s8, e8, p8, q8, r8⟩ := pick_d 7 (by omega) code a7 s7 (k + 10) hb q7 r7 (by omega)
  simp only at e8
  rw [e8]
  exact ⟨_, _, _, rfl, trivial, q8, by first | omega | (simp only; omega)⟩
 | false =>
  simp only [cond_false]
  have part : ∀ (lst : List Int) (old : Int) (b t : Int) (k' : Nat), 1 ≤ lst.length ∧ lst.length ≤ 1000 → 0 ≤ b → b ≤ (k' : Int) → k' + 4 ≤ 1000000000 → ∃ b' t' w, ((F_spec_l1Cur_one (Tl1Cur.mk code b t) 20).bind fun (r_9, m7) =>
    bif r_9 then ((F_spec_l1Cur_among (Tl1Cur.mk code m7.at_ m7.seed) lst).bind fun (r_10, m8) => some (m8.at_, m8.seed, r_10)) else (some (m7.at_, m7.seed, old))) = some (b', t', w) ∧ 0 ≤ b' ∧ b' ≤ ((k' + 4 : Nat) : Int) := fun lst old b t k' hl hb0 hb1 hk => by
   obtain ⟨v9, a9, s9, e9, p9, q9, r9⟩ := one_d 20 (by omega) code b t k' hb hb0 hb1 (by omega)
   simp only at e9
   rw [e9]; simp only [Option.bind_some]
   cases v9 with
   | true =>
    simp only [cond_true]
    obtain ⟨v10, a10, s10, e10, p10, q10, r10⟩ := among_d lst hl code a9 s9 (k' + 2) hb q9 r9 (by omega)
    simp only at e10
    rw [e10]
    exact ⟨_, _, _, rfl, q10, by first | omega | (simp only; omega)⟩
   | false => exact ⟨_, _, _, rfl, q9, by first | omega | (simp only; omega)⟩
  obtain ⟨b1, t1, w1, f1, f2, f3⟩ := part [8, (-1), 0] M a7 s7 (k + 10) (by decide) q7 r7 (by omega)
  rw [f1]; simp only [Option.bind_some]
  obtain ⟨b2, t2, w2, g1, g2, g3⟩ := part [n, (-1), 0] J b1 t1 (k + 10 + 4) ⟨by simp, by simp⟩ f2 f3 (by omega)
  rw [g1]
  exact ⟨_, _, _, rfl, trivial, g2, by first | omega | (simp only; omega)⟩
theorem lvalid_tot {R : Nat} (hR : LvN R) (t : TTwoLevel) : ∃ b, F_spec_l11Valid R t = some b ∧ (b = true → VTl R t) := by
 have hle := lvn_le hR
 obtain ⟨b, _, h2, h3⟩ := valid_both (R : Int) (by omega) t
 unfold F_spec_IsValidTwoLevel at h2
 cases hv : F_spec_l11Valid R t with
 | none => rw [hv] at h2; cases h2
 | some b' =>
  rw [hv] at h2
  have : b' = b := Option.some.inj h2
  subst this
  refine ⟨b', rfl, fun h => ?_⟩
  obtain ⟨R', e, _, hv⟩ := h3 h
  have : R = R' := by omega
  rw [this]; exact hv
theorem levels_d {n : Nat} (hn : LvN n) : Dr (fun c => F_spec_l1Cur_levels c (n : Int)) (fun l => l.length ≤ 9) 300 := fun code a s k hb h0 h1 h2 => by
 have hle := lvn_le hn
 unfold F_spec_l1Cur_levels
 simp only
 obtain ⟨v1, a1, s1, e1, p1, q1, r1⟩ := pick_d 9 (by omega) code a s k hb h0 h1 (by omega)
 simp only at e1
 rw [e1]; simp only [Option.bind_some]
 have hv1 := pick_lt p1 (by omega)
 have hs := whX_inv (f := F_spec_l1Cur_levels_l1 (Tl1Cur.mk code a s) (n : Int)) (fun t => 0 ≤ t.2.2.2 ∧ 0 ≤ t.1 ∧ t.1 + 30 * t.2.2.2 ≤ ((k + 2 + 30 * 9 : Nat) : Int) ∧ (t.2.2.1.length : Int) + t.2.2.2 ≤ 9) (fun t => 0 ≤ t.1 ∧ t.1 ≤ ((k + 2 + 30 * 9 : Nat) : Int) ∧ t.2.2.1.length ≤ 9) (fun _ => False) (fun t => t.2.2.2.toNat) (fun t ht => by
  obtain ⟨b1, z1, L, k_⟩ := t
  obtain ⟨t1, t2, t3, t4⟩ := ht
  simp only at t1 t2 t3 t4
  unfold F_spec_l1Cur_levels_l1
  simp only
  by_cases hk0 : 0 < k_
  ·rw [decide_eq_true hk0]
   simp only [cond_true]
   obtain ⟨v2, a2, s2, e2, p2, q2, r2⟩ := level_d (n : Int) (by omega) code b1 z1 b1.toNat hb t2 (by omega) (by omega)
   simp only at e2
   rw [e2]; simp only [Option.bind_some]
   obtain ⟨b, hv, _⟩ := lvalid_tot hn v2
   rw [hv]; simp only [Option.bind_some]
   have hw : IntKind.i64.wrap (k_ - 1) = k_ - 1 := wr (by omega)
   cases b with
   | true =>
    simp only [Bool.not_true, cond_false]
    rw [chk_t (by omega)]
    simp only [Option.bind_some]
    rw [hw]
    exact .inl ⟨_, rfl, ⟨by simp only; omega, q2, by simp only; omega, by simp only [List.length_append, List.length_singleton]; omega⟩, by simp only; omega⟩
   | false =>
    simp only [Bool.not_false, cond_true]
    obtain ⟨v3, a3, s3, e3, p3, q3, r3⟩ := one_d 8 (by omega) code a2 s2 (b1.toNat + 20) hb q2 r2 (by omega)
    simp only at e3
    rw [e3]; simp only [Option.bind_some]
    cases v3 with
    | true =>
     simp only [cond_true]
     rw [chk_t (by omega)]
     simp only [Option.bind_some]
     rw [hw]
     exact .inl ⟨_, rfl, ⟨by simp only; omega, q3, by simp only; omega, by simp only [List.length_append, List.length_singleton]; omega⟩, by simp only; omega⟩
    | false =>
     simp only [cond_false, Option.bind_some]
     rw [hw]
     exact .inl ⟨_, rfl, ⟨by simp only; omega, q3, by simp only; omega, by simp only; omega⟩, by simp only; omega⟩
  ·rw [decide_eq_false hk0]
   exact .inr (.inl ⟨_, rfl, t2, by simp only; omega, by simp only; omega⟩)) fuel (a1, s1, [], v1) ⟨by simp only; omega, q1, by simp only; omega, by simp only [List.length_nil]; omega⟩ (fuelB (by simp only; omega))
 rcases hs with ⟨⟨b1, z1, L, k_⟩, w1, w2, w3, w4⟩ | ⟨r, _, hr⟩
 ·rw [w1]
  simp only at w2 w3 w4
  exact ⟨_, _, _, rfl, w4, w2, by first | omega | (simp only; omega)⟩
 ·exact hr.elim
theorem compose_tot {n : Nat} (hn : LvN n) {l : List TTwoLevel} (hl : l.length ≤ 500) : ∃ M ok, F_spec_ComposeTwoLevel n l = some (M, ok) ∧ (ok = true → ∃ L, M = TMatrix.mk n n L ∧ okD L ∧ L.length = n * n) := by
 have hle := lvn_le hn
 unfold F_spec_ComposeTwoLevel
 rw [show F_spec_l11Dim (n : Int) = some true from lvn_impl hn]
 simp only [Option.bind_some, Bool.not_true, Bool.false_or]
 rw [decide_eq_false (show ¬ 500 < (l.length : Int) by omega)]
 simp only [cond_false]
 rw [unit_spec n (dim_mem (lvn_dim hn))]
 simp only [Option.bind_some]
 rw [wr (a := (l.length : Int) - 1) (by omega)]
 have hs := whX_inv (f := F_spec_ComposeTwoLevel_l1 l n) (fun t => t.2.1 = (n : Int) ∧ t.2.2.1 = (n : Int) ∧ okD t.2.2.2.1 ∧ t.2.2.2.1.length = n * n ∧ -1 ≤ t.2.2.2.2 ∧ t.2.2.2.2 < (l.length : Int)) (fun t => t.2.1 = (n : Int) ∧ t.2.2.1 = (n : Int) ∧ okD t.2.2.2.1 ∧ t.2.2.2.1.length = n * n) (fun r => r.2 = false) (fun t => (t.2.2.2.2 + 1).toNat) (fun t ht => by
  obtain ⟨bad, Rw, Cl, L, i⟩ := t
  obtain ⟨t1, t2, t3, t4, t5, t6⟩ := ht
  simp only at t1 t2 t3 t4 t5 t6
  subst t1 t2
  unfold F_spec_ComposeTwoLevel_l1
  simp only
  by_cases h0 : 0 ≤ i
  ·rw [decide_eq_true h0]
   simp only [cond_true]
   obtain ⟨x, hx, _⟩ := getI_at (l := l) h0 (by omega)
   rw [hx]; simp only [Option.bind_some]
   obtain ⟨b, hv, hV⟩ := lvalid_tot hn x
   rw [hv]; simp only [Option.bind_some]
   cases b with
   | false => exact .inr (.inr ⟨_, rfl, rfl⟩)
   | true =>
    simp only [Bool.not_true, cond_false]
    obtain ⟨b', L', e, o, ln⟩ := level_tot hn (C := n) (by omega) t3 t4 (hV rfl) bad
    rw [e]; simp only [Option.bind_some]
    rw [wr (a := i - 1) (by omega)]
    exact .inl ⟨_, rfl, ⟨rfl, rfl, o, ln, by simp only; omega, by simp only; omega⟩, by simp only; omega⟩
  ·rw [decide_eq_false h0]
   exact .inr (.inl ⟨_, rfl, rfl, rfl, t3, t4⟩)) fuel (false, (n : Int), (n : Int), unitL n, (l.length : Int) - 1) ⟨rfl, rfl, unit_ok n, unit_len n, by simp only; omega, by simp only; omega⟩ (fuelB (by simp only; omega))
 rcases hs with ⟨⟨bad, Rw, Cl, L, i⟩, w1, w2, w3, w4, w5⟩ | ⟨r, w1, hr⟩
 ·rw [w1]
  simp only at w2 w3 w4 w5
  subst w2 w3
  simp only [Option.bind_some, orR]
  cases bad with
  | true => exact ⟨_, _, rfl, fun h => by cases h⟩
  | false => exact ⟨_, _, rfl, fun _ => ⟨L, rfl, w4, w5⟩⟩
 ·rw [w1]
  obtain ⟨M, ok⟩ := r
  simp only at hr
  subst hr
  exact ⟨_, _, rfl, fun h => by cases h⟩
theorem unitary_d : Dr F_spec_l1Cur_unitary (fun m => ∃ (n : Nat) (L : List TDyadic), m = TMatrix.mk n n L ∧ LvN n ∧ okD L ∧ L.length = n * n) 2000 := fun code a s k hb h0 h1 h2 => by
 unfold F_spec_l1Cur_unitary
 simp only
 have rest : ∀ (b t : Int), 0 ≤ b → b ≤ ((k + 310 : Nat) : Int) → ∃ v a' s', ((F_spec_l1Cur_pick (Tl1Cur.mk code b t) 3).bind fun (r_6, m4) => (F_spec_l1Cur_built (Tl1Cur.mk code m4.at_ m4.seed) (IntKind.i64.wrap (1 + r_6)) 9 [1, 1, 7, 7, 5, 3, 9, 9, 10, 12, 2]).bind fun (r_7, m5) =>
   (F_spec_l6Op r_7).bind fun r_8 => some ((r_8, (Tl1Cur.mk code m5.at_ m5.seed)))) = some (v, Tl1Cur.mk code a' s') ∧ (∃ (n : Nat) (L : List TDyadic), v = TMatrix.mk n n L ∧ LvN n ∧ okD L ∧ L.length = n * n) ∧ 0 ≤ a' ∧ a' ≤ ((k + 2000 : Nat) : Int) := fun b t hb0 hb1 => by
  obtain ⟨v6, a6, s6, e6, p6, q6, r6⟩ := pick_d 3 (by omega) code b t (k + 310) hb hb0 hb1 (by omega)
  simp only at e6
  rw [e6]; simp only [Option.bind_some]
  obtain ⟨q, hq, hqn⟩ : ∃ q : Nat, IntKind.i64.wrap (1 + v6) = (q : Int) ∧ 1 ≤ q ∧ q ≤ 3 := by
   have := pick_lt p6 (by omega)
   exact ⟨(1 + v6).toNat, by rw [wr (by omega)]; omega, by omega, by omega⟩
  rw [hq]
  obtain ⟨c, a7, s7, e7, ⟨p1, p2, p3⟩, q7, r7⟩ := built_d q ⟨by omega, by omega⟩ 9 (by decide) [1, 1, 7, 7, 5, 3, 9, 9, 10, 12, 2] (by decide) (by decide) code a6 s6 (k + 310 + 2) hb q6 r6 (by omega)
  simp only at e7
  rw [show F_spec_l1Cur_built (Tl1Cur.mk code a6 s6) (q : Int) 9 [1, 1, 7, 7, 5, 3, 9, 9, 10, 12, 2] = _ from e7]
  simp only [Option.bind_some]
  obtain ⟨Q, gs⟩ := c
  simp only at p1 p2 p3
  subst p1
  obtain ⟨L, g1, g2, g3⟩ := op_tot hqn p3 (by omega)
  rw [g1]
  refine ⟨_, _, _, rfl, ⟨2 ^ q, L, rfl, ?_, g2, g3⟩, q7, by first | omega | (simp only; omega)⟩
  have : q = 1 ∨ q = 2 ∨ q = 3 := by omega
  unfold LvN
  rcases this with rfl | rfl | rfl <;> decide
 obtain ⟨v1, a1, s1, e1, p1, q1, r1⟩ := one_d 2 (by omega) code a s k hb h0 h1 (by omega)
 simp only at e1
 rw [e1]; simp only [Option.bind_some]
 cases v1 with
 | false =>
  simp only [cond_false, Option.bind_some, orR]
  exact rest a1 s1 q1 (by omega)
 | true =>
  simp only [cond_true]
  obtain ⟨v2, a2, s2, e2, p2, q2, r2⟩ := among_d [2, 4, 4, 8] (by decide) code a1 s1 (k + 2) hb q1 r1 (by omega)
  simp only at e2
  rw [e2]; simp only [Option.bind_some]
  obtain ⟨n, rfl, hn⟩ : ∃ n : Nat, v2 = n ∧ LvN n := by
   simp only [List.mem_cons, List.not_mem_nil, or_false] at p2
   exact ⟨v2.toNat, by omega, by unfold LvN; omega⟩
  obtain ⟨v3, a3, s3, e3, p3, q3, r3⟩ := levels_d hn code a2 s2 (k + 2 + 2) hb q2 r2 (by omega)
  simp only at e3
  rw [e3]; simp only [Option.bind_some]
  obtain ⟨M, ok, e4, h4⟩ := compose_tot hn (l := v3) (by omega)
  rw [e4]; simp only [Option.bind_some]
  cases ok with
  | true =>
   simp only [cond_true, Option.bind_some, orR]
   obtain ⟨L, l1, l2, l3⟩ := h4 rfl
   exact ⟨_, _, _, rfl, ⟨n, L, l1, hn, l2, l3⟩, q3, by first | omega | (simp only; omega)⟩
  | false =>
   simp only [cond_false, Option.bind_some, orR]
   exact rest a3 s3 q3 (by omega)
theorem column_tot {n k : Nat} (hn : LvN n) {L : List TDyadic} (hL : L.length = n * n) (hk : k < n) : ∃ x, F_spec_l3Column (TMatrix.mk n n L) k = some (TMatrix.mk n 1 x) ∧ x.length = n ∧ ∀ a, a < n → x.getD a dZero = L.getD (a * n + k) dZero := by
 have hle := lvn_le hn
 unfold F_spec_l3Column
 simp only [Int.toNat_natCast]
 rw [chk_t (by omega)]
 obtain ⟨x, h1, h2, h3⟩ := forN_inv (f := F_spec_l3Column_l1 (TMatrix.mk n n L) k) (fun i x => x.length = i ∧ ∀ a, a < i → x.getD a dZero = L.getD (a * n + k) dZero) n 0 [] ⟨rfl, fun a h => absurd h (Nat.not_lt_zero _)⟩ (fun i s _ hi hs => by
  have gi := ix_lt (R := n) (C := n) (i := i) (j := k) (by omega) hk
  unfold F_spec_l3Column_l1
  simp only
  rw [ix (R := n) (C := n) (i := i) (j := k) (by omega) hk (by omega) (by omega), gI (n := i * n + k) rfl (by omega)]
  simp only [Option.bind_some]
  rw [chk_t (by omega)]
  refine ⟨_, rfl, by rw [List.length_append, hs.1]; rfl, fun a ha => ?_⟩
  rw [List.getD_eq_getElem?_getD]
  by_cases hai : a = i
  ·subst hai
   rw [List.getElem?_append_right (by omega), hs.1, Nat.sub_self]; rfl
  ·rw [List.getElem?_append_left (by omega), ← List.getD_eq_getElem?_getD, hs.2 a (by omega)])
 rw [h1]
 exact ⟨x, rfl, by omega, fun a ha => h3 a (by omega)⟩
theorem redcol_d {code : List Int} (hb : BOk code) : ∃ v f, F_spec_DrawReduceColumn code = some (v, f) ∧ v.Cells.length ≤ 1024 := by
 unfold F_spec_DrawReduceColumn
 obtain ⟨v1, a1, s1, e1, p1, q1, r1⟩ := one_d 12 (by omega) code 0 0 0 hb (Int.le_refl _) (Int.le_refl _) (by omega)
 simp only at e1 ⊢
 rw [e1]; simp only [Option.bind_some]
 cases v1 with
 | true =>
  simp only [cond_true]
  obtain ⟨v2, a2, s2, e2, p2, q2, r2⟩ := anyMatrix_d code a1 s1 2 hb q1 r1 (by omega)
  rw [e2]; simp only [Option.bind_some]
  obtain ⟨v3, a3, s3, e3, p3, q3, r3⟩ := pick_d 4 (by omega) code a2 s2 (2 + 10300) hb q2 r2 (by omega)
  simp only at e3
  rw [e3]
  exact ⟨_, _, rfl, p2⟩
 | false =>
  simp only [cond_false]
  obtain ⟨v2, a2, s2, e2, ⟨n, L, rfl, hn, oL, lL⟩, q2, r2⟩ := unitary_d code a1 s1 2 hb q1 r1 (by omega)
  rw [e2]; simp only [Option.bind_some]
  have hle := lvn_le hn
  obtain ⟨v3, a3, s3, e3, p3, q3, r3⟩ := pick_d (n : Int) (by omega) code a2 s2 (2 + 2000) hb q2 r2 (by omega)
  simp only at e3
  rw [e3]; simp only [Option.bind_some]
  have h3 := pick_lt p3 (by omega)
  obtain ⟨c, rfl⟩ : ∃ c : Nat, v3 = c := ⟨v3.toNat, by omega⟩
  obtain ⟨x, x1, x2, _⟩ := column_tot hn lL (k := c) (by omega)
  rw [x1]; simp only [Option.bind_some]
  have mid : ∃ (b t : Int) (y : List TDyadic), ((F_spec_l1Cur_one (Tl1Cur.mk code a3 s3) 16).bind fun (r_8, m5) =>
    bif r_8 then ((F_spec_l1Cur_pick (Tl1Cur.mk code m5.at_ m5.seed) (n : Int)).bind fun (r_9, m6) =>
    (F_spec_l1Cur_dyadic (Tl1Cur.mk code m6.at_ m6.seed)).bind fun (r_10, m7) =>
    (getI x r_9).bind fun x_1 =>
    some (m7.at_, m7.seed, (x.set r_9.toNat r_10))) else (some (m5.at_, m5.seed, x))) = some (b, t, y) ∧ y.length = n ∧ 0 ≤ b ∧ b ≤ ((3000 : Nat) : Int) := by
   obtain ⟨v4, a4, s4, e4, p4, q4, r4⟩ := one_d 16 (by omega) code a3 s3 (2 + 2000 + 2) hb q3 r3 (by omega)
   simp only at e4
   rw [e4]; simp only [Option.bind_some]
   cases v4 with
   | false => exact ⟨_, _, _, rfl, x2, q4, by omega⟩
   | true =>
    simp only [cond_true]
    obtain ⟨v5, a5, s5, e5, p5, q5, r5⟩ := pick_d (n : Int) (by omega) code a4 s4 (2 + 2000 + 2 + 2) hb q4 r4 (by omega)
    simp only at e5
    rw [e5]; simp only [Option.bind_some]
    have h5 := pick_lt p5 (by omega)
    obtain ⟨v6, a6, s6, e6, p6, q6, r6⟩ := dyadic_d code a5 s5 (2 + 2000 + 2 + 2 + 2) hb q5 r5 (by omega)
    rw [e6]; simp only [Option.bind_some]
    obtain ⟨z, hz, _⟩ := getI_at (l := x) h5.1 (by omega)
    rw [hz]
    exact ⟨_, _, _, rfl, by rw [List.length_set]; exact x2, q6, by omega⟩
  obtain ⟨b, t, y, e4, y1, b0, b1⟩ := mid
  rw [e4]; simp only [Option.bind_some]
  have mid2 : ∃ (b' t' f : Int), ((F_spec_l1Cur_one (Tl1Cur.mk code b t) 3).bind fun (r_11, m8) =>
    bif r_11 then ((whX (F_spec_DrawReduceColumn_l1 (TMatrix.mk n 1 x) y) fuel 0).bind <| orR fun from_1 =>
    some (m8.at_, m8.seed, from_1)) else (some (m8.at_, m8.seed, 0))) = some (b', t', f) ∧ 0 ≤ b' ∧ b' ≤ ((3002 : Nat) : Int) := by
   obtain ⟨v5, a5, s5, e5, p5, q5, r5⟩ := one_d 3 (by omega) code b t 3000 hb b0 b1 (by omega)
   simp only at e5
   rw [e5]; simp only [Option.bind_some]
   cases v5 with
   | false => exact ⟨_, _, _, rfl, q5, by omega⟩
   | true =>
    simp only [cond_true]
    have hs := whX_inv (f := F_spec_DrawReduceColumn_l1 (TMatrix.mk n 1 x) y) (fun f => 0 ≤ f ∧ f < (n : Int)) (fun _ => True) (fun _ => False) (fun f => ((n : Int) - f).toNat) (fun f hf => by
     unfold F_spec_DrawReduceColumn_l1
     simp only
     rw [wr (a := f + 1) (by omega)]
     obtain ⟨z, hz, _⟩ := getI_at (l := y) hf.1 (by omega)
     rw [hz]
     by_cases hlt : f + 1 < (n : Int)
     ·rw [decide_eq_true hlt]
      simp only [gb, cond_true, Option.bind_some, Bool.true_and]
      rw [dz_eq]
      by_cases hzz : z = dZero
      ·rw [decide_eq_true hzz]
       exact .inl ⟨_, rfl, ⟨by omega, hlt⟩, by omega⟩
      ·rw [decide_eq_false hzz]
       exact .inr (.inl ⟨_, rfl, trivial⟩)
     ·rw [decide_eq_false hlt]
      exact .inr (.inl ⟨_, rfl, trivial⟩)) fuel 0 ⟨by omega, by omega⟩ (fuelB (by omega))
    rcases hs with ⟨f, w1, _⟩ | ⟨r, _, hr⟩
    ·rw [w1]
     exact ⟨_, _, _, rfl, q5, by omega⟩
    ·exact hr.elim
  obtain ⟨b', t', f, e5, c0, c1⟩ := mid2
  rw [e5]; simp only [Option.bind_some]
  obtain ⟨v6, a6, s6, e6, p6, q6, r6⟩ := pick_d 12 (by omega) code b' t' 3002 hb c0 c1 (by omega)
  simp only at e6
  rw [e6]; simp only [Option.bind_some]
  obtain ⟨v7, a7, s7, e7, p7, q7, r7⟩ := pick_d 12 (by omega) code a6 s6 (3002 + 2) hb q6 r6 (by omega)
  simp only at e7
  rw [e7]
  exact ⟨_, _, rfl, by simp only; omega⟩

theorem path_law {R : Nat} {v : TMatrix} (hv : v.Rows = (R : Int)) {x : List TDyadic} : ∀ (ts pre : List TTwoLevel) (l : List TDyadic), Pth R ts l x → forX (F_laws_FnTwoLevel_l1 (pre ++ ts) v) ts.length pre.length (R, 1, l) = some (.inl (R, 1, x))
 | [], _, l, h => by cases h; rfl
 | t :: ts, pre, l, ⟨y, ⟨L, h1, h2⟩, h3⟩ => by
  have hg : getI (pre ++ t :: ts) (pre.length : Int) = some t := by rw [getI_nat]; simp
  have hstep : F_laws_FnTwoLevel_l1 (pre ++ t :: ts) v pre.length (R, 1, l) = some (.nx (R, 1, y)) := by
   unfold F_laws_FnTwoLevel_l1
   simp only
   rw [hg, hv]
   simp only [Option.bind_some]
   rw [h1]
   simp only [Option.bind_some]
   rw [h2]
   rfl
  rw [List.length_cons, forX, hstep]
  have := path_law hv ts (pre ++ [t]) y h3
  rw [List.append_assoc, List.length_append, List.length_singleton] at this
  exact this
theorem inv_draw {code : List Int} (hb : BOk code) : ∃ n t, F_spec_DrawInverseTwoLevel code = some (n, t) ∧ 0 ≤ n ∧ n ≤ 100 := by
 unfold F_spec_DrawInverseTwoLevel F_spec_DrawIsValidTwoLevel F_spec_l1Cur_dim
 obtain ⟨v1, a1, s1, e1, p1, q1, r1⟩ := among_d [2, 4, 8, 4, 4, 8, 2, 3] (by decide) code 0 0 0 hb (Int.le_refl _) (Int.le_refl _) (by omega)
 simp only at e1
 rw [e1]; simp only [Option.bind_some]
 have hn : 0 ≤ v1 ∧ v1 ≤ 100 := by
  simp only [List.mem_cons, List.not_mem_nil, or_false] at p1; omega
 obtain ⟨v2, a2, s2, e2, p2, q2, r2⟩ := level_d v1 (by omega) code a1 s1 2 hb q1 r1 (by omega)
 simp only at e2
 rw [e2]
 exact ⟨_, _, rfl, hn.1, hn.2⟩
theorem basis_end {R f : Nat} (hR : LvN R) (hf : f < R) : ∃ r20 r22, F_spec_IdentityMatrix R = some (r20, true) ∧ F_spec_ColumnOf r20 f = some (r22, true) ∧ F_spec_EqualMatrices (TMatrix.mk R 1 (vecL R f dOne)) r22 = some true := by
 have hle := lvn_le hR
 have hRR : R * R ≤ 8 * 8 := Nat.mul_le_mul hle.2 hle.2
 obtain ⟨x, x1, x2, x3⟩ := column_tot hR (unit_len R) hf
 have hx : x = vecL R f dOne := vec_eq x2 hf (by rw [x3 f hf, unit_get hf hf, if_pos rfl]) (fun q hq hqf => by rw [x3 q hq, unit_get hq hf, if_neg hqf])
 subst hx
 refine ⟨TMatrix.mk R R (unitL R), TMatrix.mk R 1 (vecL R f dOne), ?_, ?_, meq_self (by simp only; omega)⟩
 ·unfold F_spec_IdentityMatrix
  rw [spec_dim, lvn_dim hR]
  simp only [Option.bind_some, Bool.not_true, cond_false]
  rw [unit_spec R (dim_mem (lvn_dim hR))]; rfl
 ·unfold F_spec_ColumnOf
  rw [spec_mgood _ (by simp only; rw [unit_len]; omega), m_make (lvn_dim hR) (lvn_dim hR) (unit_len R) (unit_ok R)]
  simp only [Option.bind_some, Bool.not_true, Bool.not_false, gb, cond_true]
  unfold F_spec_l1In
  rw [wr (a := (R : Int) - 1) (by omega), decide_eq_true (show (0 : Int) ≤ (f : Int) by omega), decide_eq_true (show (f : Int) ≤ (R : Int) - 1 by omega)]
  simp only [Option.bind_some, Bool.and_self, Bool.not_true, Bool.or_self, cond_false]
  rw [x1]; rfl
theorem law_FnTwoLevel (a0 a1 : List Int) (o0 : a0.length ≤ 9223372036854775807 ∧ ∀ y ∈ a0, U8 y) (o1 : a1.length ≤ 9223372036854775807 ∧ ∀ y ∈ a1, U8 y) : F_laws_FnTwoLevel a0 a1 = some true := by
 unfold F_laws_FnTwoLevel F_laws_big
 simp only [Option.bind_some]
 cases (decide (1048576 < (a0.length : Int))) || (decide ((IntKind.i64.wrap (1048576 - (a0.length : Int))) < (a1.length : Int))) with
 | true => rfl
 | false =>
  simp only [cond_false]
  obtain ⟨n, t, hd, hn⟩ := inv_draw (code := a0) o0
  rw [hd]; simp only [Option.bind_some]
  obtain ⟨b, v1, v2, v3⟩ := valid_both n hn t
  have second : ((F_spec_DrawReduceColumn a1).bind fun (r_12, r_13) =>
    (F_impl_ReduceColumn r_12 r_13).bind fun (r_14, r_15) =>
    bif r_15 then (chk (r_14.length ≤ 9223372036854775807) <|
    (forX (F_laws_FnTwoLevel_l1 r_14 r_12) r_14.length 0 (r_12.Rows, r_12.Cols, r_12.Cells)).bind <| orR fun (Rows, Cols, Cells) =>
    (F_spec_IdentityMatrix r_12.Rows).bind fun (r_20, r_21) =>
    (F_spec_ColumnOf r_20 r_13).bind fun (r_22, r_23) =>
    (gb (r_21 && r_23) false (F_spec_EqualMatrices (TMatrix.mk Rows Cols Cells) r_22)).bind fun r_24 =>
    some (((r_21 && r_23) && r_24))) else (some (true))) = some true := by
   obtain ⟨v, fr, hd2, hlen⟩ := redcol_d (code := a1) o1
   rw [hd2]; simp only [Option.bind_some]
   rcases red_tot v fr (by omega) with h | ⟨R, f, l, ts, hR, hf, rfl, rfl, h, hts, hp⟩
   ·rw [h]; rfl
   ·rw [h]
    simp only [Option.bind_some, cond_true]
    rw [chk_t (by omega)]
    have hpl := path_law (v := TMatrix.mk R 1 l) rfl ts [] l hp
    rw [List.nil_append] at hpl
    rw [show forX (F_laws_FnTwoLevel_l1 ts (TMatrix.mk R 1 l)) ts.length 0 (R, 1, l) = _ from hpl]
    simp only [Option.bind_some, orR]
    obtain ⟨r20, r22, g1, g2, g3⟩ := basis_end hR hf
    rw [g1]; simp only [Option.bind_some]
    rw [g2]; simp only [Option.bind_some]
    rw [g3]; rfl
  unfold F_impl_InverseTwoLevel
  rw [v1, v2]
  simp only [Option.bind_some]
  cases b with
  | false =>
   simp only [Bool.not_false, cond_true, Option.bind_some, beq_self_eq_true, Bool.not_true, cond_false, orR]
   exact second
  | true =>
   obtain ⟨R, rfl, hR, hV⟩ := v3 rfl
   have hle := lvn_le hR
   have hRR : R * R ≤ 8 * 8 := Nat.mul_le_mul hle.2 hle.2
   obtain ⟨l, i1, i2, i3⟩ := inv_comp hR hV
   obtain ⟨r20, r22, g1, _, _⟩ := basis_end hR (f := 0) (by omega)
   have hr20 : r20 = TMatrix.mk R R (unitL R) := by
    unfold F_spec_IdentityMatrix at g1
    rw [spec_dim, lvn_dim hR] at g1
    simp only [Option.bind_some, Bool.not_true, cond_false] at g1
    rw [unit_spec R (dim_mem (lvn_dim hR))] at g1
    exact (Prod.mk.inj (Option.some.inj g1)).1.symm
   simp only [Bool.not_true, cond_false]
   rw [i1]
   simp only [Option.bind_some, beq_self_eq_true, Bool.not_true, cond_false, cond_true]
   rw [chk_t (by omega), i3]
   simp only [Option.bind_some]
   rw [g1, hr20]
   simp only [Option.bind_some, Bool.not_true, Bool.or_self, Bool.not_false, gb, cond_true]
   rw [meq_self (by simp only; rw [unit_len]; omega)]
   simp only [Option.bind_some, Bool.not_true, Bool.or_self, cond_false, orR]
   exact second
end Go.VK
