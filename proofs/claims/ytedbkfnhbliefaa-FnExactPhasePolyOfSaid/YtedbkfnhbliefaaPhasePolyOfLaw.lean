/- The plain law of FnExactPhasePolyOf: what its Lean function answers, for every circuit. -/
import Derived.Test.YtedbkfnhbliefaaPhasePolyOfFn
import Derived.Test.YtedbkfnhbliefaaLibI
set_option maxRecDepth 10000
set_option linter.unusedSimpArgs false
namespace Go.VK
/-! ## the law's own helpers -/
theorem to_GateS (a : List TGate) (h : a.length ≤ 1099511627776) : F_laws_toGateS a = some a := by
  unfold F_laws_toGateS
  rw [chk_t (by omega), chk_t (by omega), forN_fill (a := a) (by simp) (fun i out x hx ho => ?_)]
  · rfl
  · have hi := (List.getElem?_eq_some_iff.1 hx).1
    unfold F_laws_toGateS_l1 F_laws_toGate
    simp [getI_nat, hx, List.getElem?_eq_getElem (show i < out.length by omega)]
theorem to_Circuit (a : TCircuit) (h : a.Gates.length ≤ 1099511627776) : F_laws_toCircuit a = some a := by
  unfold F_laws_toCircuit; rw [to_GateS _ h]; rfl
theorem eqr_GateS (a : List TGate) (h : a.length ≤ 1099511627776) : F_laws_eqGateS a a = some true := by
  unfold F_laws_eqGateS
  rw [chk_t (by omega), forX_pass (fun i hi => ?_)]
  · simp [orR]
  · unfold F_laws_eqGateS_l1 F_laws_eqGate
    simp [getI_nat, List.getElem?_eq_getElem hi]
theorem eqr_Circuit (a : TCircuit) (h : a.Gates.length ≤ 1099511627776) : F_laws_eqCircuit a a = some true := by
  unfold F_laws_eqCircuit; rw [eqr_GateS _ h]; simp
theorem eqr_TermS (a : List TTerm) (h : a.length ≤ 1099511627776) : F_laws_eqTermS a a = some true := by
  unfold F_laws_eqTermS
  rw [chk_t (by omega), forX_pass (fun i hi => ?_)]
  · simp [orR]
  · unfold F_laws_eqTermS_l1 F_laws_eqTerm
    simp [getI_nat, List.getElem?_eq_getElem hi]
theorem eqr_IntS (a : List Int) (h : a.length ≤ 1099511627776) : F_laws_eqIntS a a = some true := by
  unfold F_laws_eqIntS
  rw [chk_t (by omega), forX_pass (fun i hi => ?_)]
  · simp [orR]
  · unfold F_laws_eqIntS_l1
    simp [getI_nat, List.getElem?_eq_getElem hi]
theorem eqr_Linear (a : TLinear) (h : a.Rows.length ≤ 1099511627776) : F_laws_eqLinear a a = some true := by
  unfold F_laws_eqLinear; rw [eqr_IntS _ h]; simp
theorem eqr_PhasePoly (a : TPhasePoly) (h : a.Terms.length ≤ 1099511627776) (h' : a.Out.Rows.length ≤ 1099511627776) : F_laws_eqPhasePoly a a = some true := by
  unfold F_laws_eqPhasePoly; rw [eqr_TermS _ h, eqr_Linear _ h']; simp
theorem w_succ {k : Int} (h0 : 0 ≤ k) (h : k + 1 ≤ 9223372036854775807) : IntKind.i64.wrap (k + 1) = k + 1 := wrap_i64 ⟨by omega, by omega⟩
theorem mk_GateS (a : List TGate) (k : Int) (h0 : 0 ≤ k) (h : k + a.length * 3 ≤ 9223372036854775807) : ∃ m, F_laws_markGateS a k = some (k + a.length * 3, m) := by
  obtain ⟨m, h1, _⟩ := mark_held (mk := fun (x : TGate) k => TGate.mk k (IntKind.i64.wrap (k + 1)) (IntKind.i64.wrap (IntKind.i64.wrap (k + 1) + 1))) (nx := fun k => IntKind.i64.wrap (IntKind.i64.wrap (IntKind.i64.wrap (k + 1) + 1) + 1))
    (f := F_laws_markGateS_l1) (g := fun _ _ k => some (.nx (IntKind.i64.wrap (IntKind.i64.wrap (IntKind.i64.wrap (k + 1) + 1) + 1))))
    (fun i m k x hx => by unfold F_laws_markGateS_l1; simp [getI_nat, hx]) (fun _ _ _ _ _ => rfl) a k
  refine ⟨m, ?_⟩
  unfold F_laws_markGateS
  rw [chk_t (by omega), h1, iter_add (c := 3) (by omega) (fun k hk hk' => by rw [w_succ hk (by omega), w_succ (k := k + 1) (by omega) (by omega), w_succ (k := k + 1 + 1) (by omega) (by omega)]; omega) a.length k h0 h]
  rfl
theorem mk_Circuit (a : TCircuit) (k : Int) (h0 : 0 ≤ k) (h : k + a.Gates.length * 3 ≤ 9223372036854775807) : ∃ m, F_laws_markCircuit a k = some (k + a.Gates.length * 3, m) := by
  obtain ⟨m, hm⟩ := mk_GateS a.Gates k h0 h
  exact ⟨m, by unfold F_laws_markCircuit; rw [hm]; rfl⟩
theorem mk_TermS (a : List TTerm) (k : Int) (h0 : 0 ≤ k) (h : k + a.length * 2 ≤ 9223372036854775807) : ∃ m, F_laws_markTermS a k = some (k + a.length * 2, m) ∧ F_laws_heldTermS m k = some (k + a.length * 2) := by
  obtain ⟨m, h1, hl, h2⟩ := mark_held (mk := fun (x : TTerm) k => TTerm.mk k (IntKind.i64.wrap (k + 1))) (nx := fun k => IntKind.i64.wrap (IntKind.i64.wrap (k + 1) + 1))
    (f := F_laws_markTermS_l1) (g := F_laws_heldTermS_l1)
    (fun i m k x hx => by unfold F_laws_markTermS_l1; simp [getI_nat, hx]) (fun m i k x hx => by unfold F_laws_heldTermS_l1; simp [getI_nat, hx]) a k
  have hn := iter_add (c := 2) (nx := fun k => IntKind.i64.wrap (IntKind.i64.wrap (k + 1) + 1)) (by omega) (fun k hk hk' => by rw [w_succ hk (by omega), w_succ (k := k + 1) (by omega) (by omega)]; omega) a.length k h0 h
  refine ⟨m, ?_, ?_⟩
  · unfold F_laws_markTermS; rw [chk_t (by omega), h1, hn]; rfl
  · unfold F_laws_heldTermS; rw [chk_t (by omega), h2, hn]; rfl
theorem mk_IntS (a : List Int) (k : Int) (h0 : 0 ≤ k) (h : k + a.length * 1 ≤ 9223372036854775807) : ∃ m, F_laws_markIntS a k = some (k + a.length * 1, m) ∧ F_laws_heldIntS m k = some (k + a.length * 1) := by
  obtain ⟨m, h1, hl, h2⟩ := mark_held (mk := fun (x : Int) k => k) (nx := fun k => IntKind.i64.wrap (k + 1))
    (f := F_laws_markIntS_l1) (g := F_laws_heldIntS_l1)
    (fun i m k x hx => by unfold F_laws_markIntS_l1; simp [getI_nat, hx]) (fun m i k x hx => by unfold F_laws_heldIntS_l1; simp [getI_nat, hx]) a k
  have hn := iter_add (c := 1) (nx := fun k => IntKind.i64.wrap (k + 1)) (by omega) (fun k hk hk' => by rw [w_succ hk (by omega)]) a.length k h0 h
  refine ⟨m, ?_, ?_⟩
  · unfold F_laws_markIntS; rw [chk_t (by omega), h1, hn]; rfl
  · unfold F_laws_heldIntS; rw [chk_t (by omega), h2, hn]; rfl
theorem mk_PhasePoly (a : TPhasePoly) (k : Int) (h0 : 0 ≤ k) (h : k + a.Terms.length * 2 + a.Out.Rows.length * 1 ≤ 9223372036854775807) :
    ∃ m1 m2, F_laws_markPhasePoly a k = some (k + a.Terms.length * 2 + a.Out.Rows.length * 1, m1, m2) ∧ F_laws_heldPhasePoly (TPhasePoly.mk a.Qubits a.Phase m1 (TLinear.mk m2)) k = some (k + a.Terms.length * 2 + a.Out.Rows.length * 1) := by
  obtain ⟨m1, h1, h2⟩ := mk_TermS a.Terms k h0 (by omega)
  obtain ⟨m2, h3, h4⟩ := mk_IntS a.Out.Rows (k + a.Terms.length * 2) (by omega) (by omega)
  refine ⟨m1, m2, ?_, ?_⟩
  · unfold F_laws_markPhasePoly F_laws_markLinear; rw [h1]; simp only [Option.bind_some]; rw [h3]; rfl
  · unfold F_laws_heldPhasePoly F_laws_heldLinear; simp only; rw [h2]; simp only [Option.bind_some]
    rw [show decide (k + (a.Terms.length : Int) * 2 < 0) = false from decide_eq_false (by omega)]
    simp only [cond_false]
    rw [h4]
    simp only [Option.bind_some]
    rw [show decide (k + (a.Terms.length : Int) * 2 + (a.Out.Rows.length : Int) * 1 < 0) = false from decide_eq_false (by omega)]
    simp only [cond_false, Option.bind_some]
    rw [show decide (k + (a.Terms.length : Int) * 2 + (a.Out.Rows.length : Int) * 1 < 0) = false from decide_eq_false (by omega)]
    rfl
/-- The law, where the two answer alike. -/
theorem law_of (c : TCircuit) (hc : ok_Circuit c) (r : TPhasePoly) (b : Bool) (hb : c.Gates.length ≤ 1048576 → F_spec_PhasePolyOf c = some (r, b) ∧ F_impl_PhasePolyOf c = some (r, b) ∧ r.Terms.length ≤ 1099511627776 ∧ r.Out.Rows.length ≤ 1099511627776) : F_laws_FnExactPhasePolyOf c = some true := by
  have hlen := hc.2.1
  unfold F_laws_FnExactPhasePolyOf F_laws_szCircuit F_laws_szGateS
  have hw : IntKind.i64.wrap (1048576 - (c.Gates.length : Int)) = 1048576 - (c.Gates.length : Int) := wrap_i64 ⟨by omega, by omega⟩
  rw [hw]
  by_cases hs : c.Gates.length ≤ 1048576
  · obtain ⟨h1, h2, h3, h4⟩ := hb hs
    rw [show decide (1048576 - (c.Gates.length : Int) < 0) = false from decide_eq_false (by omega)]
    simp only [cond_false, Option.bind_some]
    rw [show decide (1048576 - (c.Gates.length : Int) < 0) = false from decide_eq_false (by omega)]
    simp only [cond_false, Option.bind_some]
    rw [show decide (1048576 - (c.Gates.length : Int) < 0) = false from decide_eq_false (by omega)]
    obtain ⟨m, hm⟩ := mk_Circuit c 1 (by omega) (by omega)
    obtain ⟨m1, m2, hm1, hm2⟩ := mk_PhasePoly r 1 (by omega) (by omega)
    simp only [cond_false, Option.bind_some, to_Circuit c (by omega), h1, h2, eqr_PhasePoly r h3 h4, eqr_Circuit c (by omega), hm, hm1, hm2, Bool.not_true, Bool.false_or, beq_self_eq_true, gb, bne_self_eq_false]
    rw [show decide (1 + (c.Gates.length : Int) * 3 < 0) = false from decide_eq_false (by omega)]
    rw [show decide (1 + (r.Terms.length : Int) * 2 + (r.Out.Rows.length : Int) * 1 < 0) = false from decide_eq_false (by omega)]
    simp
  · rw [show decide (1048576 - (c.Gates.length : Int) < 0) = true from decide_eq_true (by omega)]
    simp
/-! ## which circuits are taken -/
/-- A gate that is taken, over n wires. -/
def gOk (n : Int) (g : TGate) : Bool :=
  bif decide (1 ≤ g.Kind) && decide (g.Kind ≤ 8) then decide (0 ≤ g.A) && decide (g.A ≤ n - 1) && (g.B == 0)
  else bif decide (9 ≤ g.Kind) && decide (g.Kind ≤ 11) then decide (0 ≤ g.A) && decide (g.A ≤ n - 1) && (decide (0 ≤ g.B) && decide (g.B ≤ n - 1)) && (g.A != g.B)
  else (g.Kind == 12) && (g.A == 0) && (g.B == 0)
theorem spec_gate {n : Int} (hn : 1 ≤ n ∧ n ≤ 5) (g : TGate) : F_spec_l4Gate n g = some (gOk n g) := by
  unfold F_spec_l4Gate F_spec_l1In gOk
  rw [wrap_i64 (a := n - 1) ⟨by omega, by omega⟩]
  simp only [Option.bind_some, gb]
  cases decide (1 ≤ g.Kind) && decide (g.Kind ≤ 8) <;> cases decide (9 ≤ g.Kind) && decide (g.Kind ≤ 11) <;> simp only [cond_true, cond_false, Option.bind_some]
  all_goals cases decide (0 ≤ g.A) && decide (g.A ≤ n - 1) <;> simp
theorem impl_gate {n : Int} (hn : 1 ≤ n ∧ n ≤ 5) (g : TGate) : F_impl_IsValidGate n g = some (gOk n g) := by
  unfold F_impl_IsValidGate F_impl_isTwo F_impl_within gOk
  rw [wrap_i64 (a := n - 1) ⟨by omega, by omega⟩]
  have h1 : decide (1 ≤ n) = true := decide_eq_true hn.1
  have h5 : decide (n ≤ 5) = true := decide_eq_true hn.2
  simp only [Option.bind_some, gb, h1, h5, Bool.and_self, Bool.not_true, Bool.not_false, cond_true, Bool.false_or]
  by_cases hk : 1 ≤ g.Kind ∧ g.Kind ≤ 12
  · have e1 : (decide (1 ≤ g.Kind) && decide (g.Kind ≤ 12)) = true := by simp [hk]
    simp only [e1, Bool.not_true, cond_false]
    by_cases h12 : g.Kind = 12
    · simp [h12]
    · have e12 : (g.Kind == 12) = false := by simp [h12]
      simp only [e12, cond_false]
      by_cases h9 : 9 ≤ g.Kind
      · have a1 : (decide (9 ≤ g.Kind) && decide (g.Kind ≤ 11)) = true := by simp; omega
        have a2 : (decide (1 ≤ g.Kind) && decide (g.Kind ≤ 8)) = false := by simp; omega
        simp only [a1, a2, cond_true, cond_false]
        cases decide (0 ≤ g.A) && decide (g.A ≤ n - 1) <;> simp
      · have a1 : (decide (9 ≤ g.Kind) && decide (g.Kind ≤ 11)) = false := by simp; omega
        have a2 : (decide (1 ≤ g.Kind) && decide (g.Kind ≤ 8)) = true := by simp; omega
        simp only [a1, a2, cond_true, cond_false]
  · have e1 : (decide (1 ≤ g.Kind) && decide (g.Kind ≤ 12)) = false := by simp; omega
    have a1 : (decide (9 ≤ g.Kind) && decide (g.Kind ≤ 11)) = false := by simp; omega
    have a2 : (decide (1 ≤ g.Kind) && decide (g.Kind ≤ 8)) = false := by simp; omega
    have a3 : (g.Kind == 12) = false := by simp; omega
    simp [e1, a1, a2, a3]
/-- A circuit that is taken. -/
def cOk (c : TCircuit) : Bool := decide (1 ≤ c.Qubits) && decide (c.Qubits ≤ 5) && decide (c.Gates.length ≤ 400) && c.Gates.all (gOk c.Qubits)
theorem spec_good (c : TCircuit) : F_spec_l4Good c = some (cOk c) := by
  unfold F_spec_l4Good F_spec_l1In cOk
  simp only [Option.bind_some]
  by_cases hn : 1 ≤ c.Qubits ∧ c.Qubits ≤ 5
  · by_cases hl : c.Gates.length ≤ 400
    · have e : (!(decide (1 ≤ c.Qubits) && decide (c.Qubits ≤ 5)) || decide ((400 : Int) < (c.Gates.length : Int))) = false := by simp [hn]; omega
      rw [e, cond_false, chk_t (by omega)]
      rcases forX_any (f := F_spec_l4Good_l1 c) (l := c.Gates) (p := fun g => !gOk c.Qubits g) (q := fun _ => false) (fun i x hx => by
        unfold F_spec_l4Good_l1; simp only [getI_nat, hx, Option.bind_some, spec_gate hn]; cases gOk c.Qubits x <;> rfl) with ⟨h1, h2⟩ | ⟨h1, i, _, h2⟩
      · rw [h2]
        have : c.Gates.all (gOk c.Qubits) = true := by rw [List.all_eq_true]; intro x hx; have := List.any_eq_false.1 h1 x hx; simpa using this
        simp [orR, hn, hl, this]
      · rw [h2]
        have : c.Gates.all (gOk c.Qubits) = false := by
          obtain ⟨x, hx, hp⟩ := List.any_eq_true.1 h1
          rw [List.all_eq_false]; exact ⟨x, hx, by simpa using hp⟩
        simp [orR, this]
    · have e : (!(decide (1 ≤ c.Qubits) && decide (c.Qubits ≤ 5)) || decide ((400 : Int) < (c.Gates.length : Int))) = true := by simp; omega
      rw [e, cond_true]
      simp [hl]
  · have e : (!(decide (1 ≤ c.Qubits) && decide (c.Qubits ≤ 5)) || decide ((400 : Int) < (c.Gates.length : Int))) = true := by simp; omega
    rw [e, cond_true]
    have : (decide (1 ≤ c.Qubits) && decide (c.Qubits ≤ 5)) = false := by simp; omega
    simp [this]
theorem impl_good (c : TCircuit) (hlen : c.Gates.length ≤ 1048576) : F_impl_IsValidCircuit c = some (cOk c) := by
  unfold F_impl_IsValidCircuit F_impl_within cOk
  simp only [Option.bind_some]
  by_cases hn : 1 ≤ c.Qubits ∧ c.Qubits ≤ 5
  · by_cases hl : c.Gates.length ≤ 400
    · have e : (decide (1 ≤ c.Qubits) && decide (c.Qubits ≤ 5) && decide ((c.Gates.length : Int) ≤ 400)) = true := by simp [hn]; omega
      rw [e]
      have hf : ∀ i x, c.Gates[i]? = some x → F_slices_IndexFunc_impl_Gate_impl_Gate_l1 c.Gates (fun x_0 => F_impl_IsValidCircuit_1 x_0 c) i () = some (bif !gOk c.Qubits x then .rt (i : Int) else .nx ()) := fun i x hx => by
        unfold F_slices_IndexFunc_impl_Gate_impl_Gate_l1 F_impl_IsValidCircuit_1
        simp only [getI_nat, hx, Option.bind_some, impl_gate hn]
        cases gOk c.Qubits x <;> rfl
      unfold F_slices_ContainsFunc_impl_Gate_impl_Gate F_slices_IndexFunc_impl_Gate_impl_Gate
      rw [chk_t (by omega)]
      rcases forX_any hf with ⟨h1, h2⟩ | ⟨h1, i, _, h2⟩
      · rw [h2]
        have : c.Gates.all (gOk c.Qubits) = true := by rw [List.all_eq_true]; intro x hx; have := List.any_eq_false.1 h1 x hx; simpa using this
        simp [orR, hn, hl, this, gb]
      · rw [h2]
        have : c.Gates.all (gOk c.Qubits) = false := by
          obtain ⟨x, hx, hp⟩ := List.any_eq_true.1 h1
          rw [List.all_eq_false]; exact ⟨x, hx, by simpa using hp⟩
        simp [orR, this, gb]
    · have e : (decide (1 ≤ c.Qubits) && decide (c.Qubits ≤ 5) && decide ((c.Gates.length : Int) ≤ 400)) = false := by simp; omega
      rw [e]
      simp [gb, hl]
  · have this : (decide (1 ≤ c.Qubits) && decide (c.Qubits ≤ 5)) = false := by simp; omega
    simp [gb, this]
/-! ## the sums -/
/-- What a sum is, taken by eight. -/
def m8 (x : Int) : Int := Int.tmod (IntKind.i64.wrap ((Int.tmod x 8) + 8)) 8
theorem m8_eq {x : Int} (h : 0 ≤ x ∧ x ≤ 1000000) : m8 x = x % 8 := by
  unfold m8
  rw [Int.tmod_eq_emod_of_nonneg h.1, wrap_i64 ⟨by omega, by omega⟩, Int.tmod_eq_emod_of_nonneg (by omega)]
  omega
theorem coef_eq (k : Int) : F_spec_l13Coef k = F_impl_rotationCoef k := rfl
theorem coef_le (k : Int) : ∃ r, F_impl_rotationCoef k = some r ∧ 0 ≤ r ∧ r ≤ 7 := by
  unfold F_impl_rotationCoef
  cases k == 4 <;> cases k == 5 <;> cases k == 6 <;> cases k == 7 <;> cases k == 8 <;> exact ⟨_, rfl, by omega, by omega⟩
/-- The two tables of sums say the same: B as it runs, S taken by eight, with a bound. -/
def Same (N : Nat) (z : Int) (B S : List Int) : Prop :=
  B.length = N ∧ S.length = 32 ∧ N ≤ 32 ∧ (∀ (j : Nat) (x : Int), B[j]? = some x → 0 ≤ x ∧ x ≤ z ∧ S[j]? = some (x % 8)) ∧ ∀ j, N ≤ j → j < 32 → S[j]? = some 0
theorem Same.mono {N : Nat} {z z' : Int} {B S : List Int} (h : Same N z B S) (hz : z ≤ z') : Same N z' B S :=
  ⟨h.1, h.2.1, h.2.2.1, fun j x hx => ⟨(h.2.2.2.1 j x hx).1, Int.le_trans (h.2.2.2.1 j x hx).2.1 hz, (h.2.2.2.1 j x hx).2.2⟩, h.2.2.2.2⟩
theorem Same.add {N : Nat} {z : Int} {B S : List Int} (h : Same N z B S) (hz : z ≤ 100000) {i d : Int} (h0 : 0 ≤ i) (h1 : i < N) (hd : 0 ≤ d ∧ d ≤ 7) :
    ∃ x, getI B i = some x ∧ F_impl_coefficients_add S i d = some (S.set i.toNat ((x + d) % 8)) ∧ IntKind.i64.wrap (x + d) = x + d ∧ Same N (z + 7) (B.set i.toNat (IntKind.i64.wrap (x + d))) (S.set i.toNat ((x + d) % 8)) := by
  obtain ⟨hB, hS, hN, hj, ho⟩ := h
  obtain ⟨x, hx, hx'⟩ := getI_at h0 (show i < B.length by omega)
  obtain ⟨x0, xz, xs⟩ := hj _ _ hx'
  have hw : IntKind.i64.wrap (x + d) = x + d := wrap_i64 ⟨by omega, by omega⟩
  have hs : getI S i = some (x % 8) := by unfold getI; rw [if_pos h0, xs]
  refine ⟨x, hx, ?_, hw, by simpa using hB, by simpa using hS, hN, ?_, ?_⟩
  · unfold F_impl_coefficients_add
    rw [hs]
    simp only [Option.bind_some]
    rw [wrap_i64 (a := x % 8 + d) ⟨by omega, by omega⟩]
    have := m8_eq (x := x % 8 + d) ⟨by omega, by omega⟩
    unfold m8 at this
    rw [this, show (x % 8 + d) % 8 = (x + d) % 8 by omega]
  · intro j y hy
    rw [List.getElem?_set] at hy ⊢
    by_cases e : i.toNat = j
    · subst e
      rw [if_pos rfl] at hy ⊢
      rw [if_pos (by omega)] at hy ⊢
      cases hy
      rw [hw]
      exact ⟨by omega, by omega, rfl⟩
    · rw [if_neg e] at hy ⊢
      have := hj j y hy
      exact ⟨this.1, by omega, this.2.2⟩
  · intro j hj1 hj2
    rw [List.getElem?_set, if_neg (by omega)]
    exact ho j hj1 hj2
/-- The two lists of terms. -/
theorem terms_eq {N : Nat} {z : Int} {B S : List Int} (h : Same N z B S) (hz : z ≤ 100000) : ∃ l, F_spec_l13List B = some l ∧ F_impl_coefficients_terms S = some l ∧ l.length ≤ 32 := by
  obtain ⟨hB, hS, hN, hj, ho⟩ := h
  unfold F_spec_l13List F_impl_coefficients_terms
  rw [chk_t (by omega)]
  have step : ∀ (i : Nat) (x : Int) (out : List TTerm), out.length ≤ i → i < 32 → S[i]? = some (x % 8) → ∃ out', F_impl_coefficients_terms_l1 S i out = some out' ∧ out'.length ≤ i + 1 ∧
      out' = (bif decide (0 < (i : Int)) && decide (0 < x % 8) then out ++ [TTerm.mk (i : Int) (x % 8)] else out) := fun i x out hl hi hx => by
    unfold F_impl_coefficients_terms_l1
    simp only [getI_nat, hx, Option.bind_some]
    cases decide (0 < (i : Int)) && decide (0 < x % 8)
    · exact ⟨out, rfl, by omega, rfl⟩
    · simp only [cond_true]
      rw [chk_t (by omega)]
      exact ⟨_, rfl, by simp; omega, rfl⟩
  obtain ⟨l, l', h1, h2, h3, h4⟩ := forN2_inv (f := F_spec_l13List_l1 B) (g := F_impl_coefficients_terms_l1 S) (fun i s t => s = t ∧ s.length ≤ i) N 0 [] [] ⟨rfl, Nat.le_refl _⟩ (fun i s t _ hi ⟨hst, hl⟩ => by
    subst hst
    have hi : i < N := by omega
    have hx := List.getElem?_eq_getElem (show i < B.length by omega)
    obtain ⟨x0, xz, xs⟩ := hj _ _ hx
    obtain ⟨out', e1, e2, e3⟩ := step i _ s hl (by omega) xs
    refine ⟨out', out', ?_, e1, rfl, e2⟩
    unfold F_spec_l13List_l1
    simp only [getI_nat, hx, Option.bind_some]
    have := m8_eq (x := B[i]) ⟨by omega, by omega⟩
    unfold m8 at this
    rw [this, e3]
    cases decide (0 < (i : Int)) && decide (0 < B[i] % 8)
    · rfl
    · simp only [cond_true]
      rw [chk_t (by omega)]
      rfl)
  rw [← h3] at h2
  obtain ⟨l'', h5, h6⟩ := forN_inv (f := F_impl_coefficients_terms_l1 S) (fun i s => s = l) (32 - N) N l rfl (fun i s hi1 hi2 hs => by
    subst hs
    refine ⟨s, ?_, rfl⟩
    unfold F_impl_coefficients_terms_l1
    have := ho i hi1 (by omega)
    simp only [getI_nat, this, Option.bind_some]
    simp)
  rw [h6] at h5
  have h7 : forN (F_impl_coefficients_terms_l1 S) 32 0 [] = some l := by
    have : ∀ (k i : Nat) (s r : List TTerm), forN (F_impl_coefficients_terms_l1 S) k i s = some r → forN (F_impl_coefficients_terms_l1 S) (k + (32 - N)) i s = forN (F_impl_coefficients_terms_l1 S) (32 - N) (i + k) r := by
      intro k
      induction k with
      | zero => intro i s r h; cases h; simp
      | succ k ih =>
        intro i s r h
        obtain ⟨s', a1, a2⟩ := forN_go h
        rw [show k + 1 + (32 - N) = k + (32 - N) + 1 by omega]
        show (F_impl_coefficients_terms_l1 S i s).bind _ = _
        rw [a1]
        simp only [Option.bind_some]
        rw [ih _ _ _ a2, show i + 1 + k = i + (k + 1) by omega]
    have := this N 0 [] l h2
    rw [show N + (32 - N) = 32 by omega] at this
    rw [this, Nat.zero_add, h5]
  rw [hB, h1, h7]
  exact ⟨l, rfl, rfl, by omega⟩
/-! ## the rows -/
/-- The exclusive or of two small numbers. -/
theorem xor_nat {a b : Nat} (ha : a < 32) (hb : b < 32) : bits .xor .i64 (a : Int) (b : Int) = ((a ^^^ b : Nat) : Int) := by
  have h1 : a ^^^ b < 2 ^ 5 := Nat.xor_lt_two_pow ha hb
  show IntKind.i64.wrap ((BitVec.ofInt 64 (a : Int) ^^^ BitVec.ofInt 64 (b : Int)).toNat : Int) = _
  have e1 : BitVec.ofInt 64 (a : Int) = BitVec.ofNat 64 a := rfl
  have e2 : BitVec.ofInt 64 (b : Int) = BitVec.ofNat 64 b := rfl
  rw [e1, e2, BitVec.toNat_xor, BitVec.toNat_ofNat, BitVec.toNat_ofNat, Nat.mod_eq_of_lt (by omega), Nat.mod_eq_of_lt (by omega)]
  exact wrap_i64 ⟨by omega, by omega⟩
/-- The rows of a map over n wires, each a number below N. -/
def RowsOk (n N : Nat) (R : List Int) : Prop := R.length = n ∧ ∀ x ∈ R, 0 ≤ x ∧ x < N
theorem RowsOk.get {n N : Nat} {R : List Int} (h : RowsOk n N R) {i : Int} (h0 : 0 ≤ i) (h1 : i < n) : ∃ x : Nat, getI R i = some (x : Int) ∧ x < N := by
  obtain ⟨x, hx, hx'⟩ := getI_at h0 (show i < R.length by rw [h.1]; exact h1)
  have := h.2 x (List.mem_of_getElem? hx')
  exact ⟨x.toNat, by rw [hx]; congr 1; omega, by omega⟩
theorem RowsOk.set {n N : Nat} {R : List Int} (h : RowsOk n N R) (i : Nat) {x : Nat} (hx : x < N) : RowsOk n N (R.set i (x : Int)) :=
  ⟨by rw [List.length_set]; exact h.1, fun y hy => by
    rcases List.mem_or_eq_of_mem_set hy with hy | rfl
    · exact h.2 y hy
    · omega⟩
theorem getI_setI {R : List Int} {i j y : Int} (h0 : 0 ≤ i) (hj : 0 ≤ j) (hij : i ≠ j) : getI (R.set i.toNat y) j = getI R j := by
  unfold getI
  rw [if_pos hj, if_pos hj, List.getElem?_set_ne (by omega)]
theorem getI_setI' {R : List Int} {i y x : Int} (h : getI R i = some x) : getI (R.set i.toNat y) i = some y := getI_set h
theorem cx_eq {R : List Int} {a b : Int} {x y : Int} (hl : R.length ≤ 32) (hb : getI R b = some x) (ha : getI R a = some y) : F_spec_l12CX (TLinear.mk R) a b = some (TLinear.mk (R.set b.toNat (bits .xor .i64 x y))) := by
  unfold F_spec_l12CX F_spec_l1Own
  rw [chk_t (show 0 + R.length ≤ 1099511627776 by omega)]
  simp only [Option.bind_some, hb, ha]
theorem set_comm3 {R : List Int} {i j : Nat} (h : i ≠ j) (a b c : Int) : ((R.set i a).set j b).set i c = (R.set j b).set i c := by
  rw [List.set_comm _ _ h, List.set_set, List.set_comm _ _ (Ne.symm h)]
/-- Three additions of one wire to another change the two. -/
theorem swap_eq {n N : Nat} {R : List Int} (h : RowsOk n N R) (hN : N ≤ 32) (hn : n ≤ 5) {k : Nat} (hk : N = 2 ^ k) {a b : Int} (a0 : 0 ≤ a) (a1 : a < n) (b0 : 0 ≤ b) (b1 : b < n) (hab : a ≠ b) :
    ∃ x y : Nat, getI R b = some (x : Int) ∧ getI R a = some (y : Int) ∧ x < N ∧ y < N ∧ ((F_spec_l12CX (TLinear.mk R) a b).bind fun r5 => (F_spec_l12CX r5 b a).bind fun r6 => F_spec_l12CX r6 a b) = some (TLinear.mk ((R.set a.toNat (x : Int)).set b.toNat (y : Int))) := by
  obtain ⟨x, hx, hxN⟩ := h.get b0 b1
  obtain ⟨y, hy, hyN⟩ := h.get a0 a1
  have hl := h.1
  refine ⟨x, y, hx, hy, hxN, hyN, ?_⟩
  have hxy : x ^^^ y < 32 := by have : x ^^^ y < 2 ^ 5 := Nat.xor_lt_two_pow (by omega) (by omega); omega
  rw [cx_eq (by omega) hx hy, xor_nat (by omega) (by omega)]
  simp only [Option.bind_some]
  rw [cx_eq (x := (y : Int)) (y := ((x ^^^ y : Nat) : Int)) (by simp; omega) (by rw [getI_setI b0 a0 (Ne.symm hab)]; exact hy) (getI_setI' hx), xor_nat (by omega) hxy]
  have e1 : y ^^^ (x ^^^ y) = x := by rw [Nat.xor_comm x y, ← Nat.xor_assoc, Nat.xor_self, Nat.zero_xor]
  rw [e1]
  simp only [Option.bind_some]
  rw [cx_eq (x := ((x ^^^ y : Nat) : Int)) (y := (x : Int)) (by simp; omega) (by rw [getI_setI a0 b0 hab]; exact getI_setI' hx) (getI_setI' (x := (y : Int)) (by rw [getI_setI b0 a0 (Ne.symm hab)]; exact hy)), xor_nat hxy (by omega)]
  have e2 : (x ^^^ y) ^^^ x = y := by rw [Nat.xor_comm x y, Nat.xor_assoc, Nat.xor_self, Nat.xor_zero]
  rw [e2, set_comm3 (by omega)]
/-- The two identities. -/
theorem ident {n : Int} (hn : 1 ≤ n ∧ n ≤ 5) : ∃ R, F_spec_l12Identity n = some (TLinear.mk R) ∧ F_impl_identityLinear n = some (TLinear.mk R) ∧ RowsOk n.toNat (2 ^ n.toNat) R ∧
    (0 : Int) ≤ IntKind.u64.wrap n ∧ shlK .i64 1 (IntKind.u64.wrap n) = ((2 ^ n.toNat : Nat) : Int) := by
  have : n = 1 ∨ n = 2 ∨ n = 3 ∨ n = 4 ∨ n = 5 := by omega
  rcases this with rfl | rfl | rfl | rfl | rfl
  · exact ⟨[1], by decide, by decide, ⟨by decide, by decide⟩, by decide, by decide⟩
  · exact ⟨[1, 2], by decide, by decide, ⟨by decide, by decide⟩, by decide, by decide⟩
  · exact ⟨[1, 2, 4], by decide, by decide, ⟨by decide, by decide⟩, by decide, by decide⟩
  · exact ⟨[1, 2, 4, 8], by decide, by decide, ⟨by decide, by decide⟩, by decide, by decide⟩
  · exact ⟨[1, 2, 4, 8, 16], by decide, by decide, ⟨by decide, by decide⟩, by decide, by decide⟩
/-! ## the two programs beside each other -/
theorem gOk_cases {n : Int} {g : TGate} (h : gOk n g = true) : (1 ≤ g.Kind ∧ g.Kind ≤ 8 ∧ 0 ≤ g.A ∧ g.A ≤ n - 1) ∨ (9 ≤ g.Kind ∧ g.Kind ≤ 11 ∧ 0 ≤ g.A ∧ g.A ≤ n - 1 ∧ 0 ≤ g.B ∧ g.B ≤ n - 1 ∧ g.A ≠ g.B) ∨ g.Kind = 12 := by
  unfold gOk at h
  by_cases h1 : 1 ≤ g.Kind ∧ g.Kind ≤ 8
  · have e : (decide (1 ≤ g.Kind) && decide (g.Kind ≤ 8)) = true := by simp [h1]
    rw [e, cond_true] at h
    simp at h
    exact .inl ⟨h1.1, h1.2, h.1.1, h.1.2⟩
  · have e : (decide (1 ≤ g.Kind) && decide (g.Kind ≤ 8)) = false := by simp; omega
    rw [e, cond_false] at h
    by_cases h2 : 9 ≤ g.Kind ∧ g.Kind ≤ 11
    · have e : (decide (9 ≤ g.Kind) && decide (g.Kind ≤ 11)) = true := by simp [h2]
      rw [e, cond_true] at h
      simp at h
      exact .inr (.inl ⟨h2.1, h2.2, h.1.1.1, h.1.1.2, h.1.2.1, h.1.2.2, h.2⟩)
    · have e : (decide (9 ≤ g.Kind) && decide (g.Kind ≤ 11)) = false := by simp; omega
      rw [e, cond_false] at h
      simp at h
      exact .inr (.inr h.1.1)
/-- Round by round the two have the same. -/
def Beside (n N : Nat) (j : Nat) (s : List Int × Int × List Int) (t : Int × List Int × List Int) : Prop :=
  s.2.1 = t.1 ∧ s.2.2 = t.2.1 ∧ RowsOk n N s.2.2 ∧ Same N (21 * (j : Int)) s.1 t.2.2 ∧ I64 t.1
theorem round {c : TCircuit} {n : Nat} (hn : 1 ≤ n ∧ n ≤ 5) (hq : c.Qubits = (n : Int)) (hl : c.Gates.length ≤ 400) (hg : c.Gates.all (gOk c.Qubits) = true) (j : Nat) (s : List Int × Int × List Int) (t : Int × List Int × List Int)
    (hj : j < c.Gates.length) (h : Beside n (2 ^ n) j s t) :
    (∃ s' t', F_spec_PhasePolyOf_l1 c j s = some (.nx s') ∧ F_impl_PhasePolyOf_l1 c j t = some (.nx t') ∧ Beside n (2 ^ n) (j + 1) s' t') ∨
      ∃ r r', F_spec_PhasePolyOf_l1 c j s = some (.rt r) ∧ F_impl_PhasePolyOf_l1 c j t = some (.rt r') ∧ (r = r' ∧ r = (TPhasePoly.mk 0 0 [] (TLinear.mk []), false)) := by
  obtain ⟨B, ph, R⟩ := s
  obtain ⟨ph', O, S⟩ := t
  obtain ⟨h1, h2, hR, hS, hp⟩ := h
  simp only at h1 h2 hR hS hp
  subst h1 h2
  have hN : 2 ^ n ≤ 32 := by
    have : n = 1 ∨ n = 2 ∨ n = 3 ∨ n = 4 ∨ n = 5 := by omega
    rcases this with rfl | rfl | rfl | rfl | rfl <;> decide
  have hx := List.getElem?_eq_getElem hj
  have hgx := List.all_eq_true.1 hg _ (List.getElem_mem hj)
  generalize c.Gates[j] = x at hx hgx
  rw [hq] at hgx
  have hk := gOk_cases hgx
  have hj4 : (j : Int) < 400 := by omega
  unfold F_spec_PhasePolyOf_l1 F_impl_PhasePolyOf_l1
  simp only [getI_nat, hx, Option.bind_some]
  have hjz : 21 * (((j + 1 : Nat)) : Int) = 21 * (j : Int) + 7 + 7 + 7 := by omega
  by_cases k9 : x.Kind = 9
  · -- an addition of one wire to another
    obtain ⟨_, _, a0, a1, b0, b1, hab⟩ : 9 ≤ x.Kind ∧ x.Kind ≤ 11 ∧ 0 ≤ x.A ∧ x.A ≤ (n : Int) - 1 ∧ 0 ≤ x.B ∧ x.B ≤ (n : Int) - 1 ∧ x.A ≠ x.B := by rcases hk with h | h | h <;> first | exact h | omega
    obtain ⟨u, hu, huN⟩ := hR.get b0 (by omega)
    obtain ⟨v, hv, hvN⟩ := hR.get a0 (by omega)
    have e9 : (x.Kind == 9) = true := by simp [k9]
    have hlR := hR.1
    simp only [e9, cond_true, hu, hv, cx_eq (show R.length ≤ 32 by omega) hu hv, Option.bind_some, orR]
    refine .inl ⟨_, _, rfl, rfl, rfl, rfl, ?_, hS.mono (by omega), hp⟩
    rw [xor_nat (by omega) (by omega)]
    exact hR.set _ (Nat.xor_lt_two_pow huN hvN)
  have e9 : (x.Kind == 9) = false := by simp [k9]
  simp only [e9, cond_false]
  by_cases k11 : x.Kind = 11
  · obtain ⟨_, _, a0, a1, b0, b1, hab⟩ : 9 ≤ x.Kind ∧ x.Kind ≤ 11 ∧ 0 ≤ x.A ∧ x.A ≤ (n : Int) - 1 ∧ 0 ≤ x.B ∧ x.B ≤ (n : Int) - 1 ∧ x.A ≠ x.B := by rcases hk with h | h | h <;> first | exact h | omega
    obtain ⟨u, v, hu, hv, huN, hvN, e⟩ := swap_eq hR hN hn.2 rfl a0 (by omega) b0 (by omega) hab
    have e11 : (x.Kind == 11) = true := by simp [k11]
    obtain ⟨r5, e5, e6⟩ := bind_inv e
    obtain ⟨r6, e6, e7⟩ := bind_inv e6
    have e8 : getI (R.set x.A.toNat (u : Int)) x.B = some (u : Int) := by rw [getI_setI a0 b0 hab]; exact hu
    simp only [e11, cond_true, e5, e6, e7, hu, hv, e8, Option.bind_some, orR]
    exact .inl ⟨_, _, rfl, rfl, rfl, rfl, (hR.set _ huN).set _ hvN, hS.mono (by omega), hp⟩
  have e11 : (x.Kind == 11) = false := by simp [k11]
  simp only [e11, cond_false]
  by_cases k10 : x.Kind = 10
  · obtain ⟨_, _, a0, a1, b0, b1, hab⟩ : 9 ≤ x.Kind ∧ x.Kind ≤ 11 ∧ 0 ≤ x.A ∧ x.A ≤ (n : Int) - 1 ∧ 0 ≤ x.B ∧ x.B ≤ (n : Int) - 1 ∧ x.A ≠ x.B := by rcases hk with h | h | h <;> first | exact h | omega
    obtain ⟨u, hu, huN⟩ := hR.get b0 (by omega)
    obtain ⟨v, hv, hvN⟩ := hR.get a0 (by omega)
    have e10 : (x.Kind == 10) = true := by simp [k10]
    have huv : v ^^^ u < 2 ^ n := Nat.xor_lt_two_pow hvN huN
    obtain ⟨y1, f1, g1, w1, S1⟩ := hS.add (i := (v : Int)) (d := 2) (by omega) (by omega) (by omega) (by omega)
    obtain ⟨y2, f2, g2, w2, S2⟩ := S1.add (i := (u : Int)) (d := 2) (by omega) (by omega) (by omega) (by omega)
    obtain ⟨y3, f3, g3, w3, S3⟩ := S2.add (i := ((v ^^^ u : Nat) : Int)) (d := 6) (by omega) (by omega) (by omega) (by omega)
    simp only [e10, cond_true, hu, hv, xor_nat (show v < 32 by omega) (show u < 32 by omega), Option.bind_some, f1, f2, f3, g1, g2, g3, orR]
    refine .inl ⟨_, _, rfl, rfl, rfl, rfl, hR, ?_, hp⟩
    show Same (2 ^ n) (21 * (((j + 1 : Nat)) : Int)) _ _
    rw [hjz]; exact S3
  have e10 : (x.Kind == 10) = false := by simp [k10]
  simp only [e10, cond_false]
  by_cases k12 : x.Kind = 12
  · have e12 : (x.Kind == 12) = true := by simp [k12]
    simp only [e12, cond_true, Option.bind_some, orR]
    refine .inl ⟨_, _, rfl, rfl, rfl, rfl, hR, hS.mono (by omega), ?_⟩
    show I64 (Int.tmod _ 8)
    have := Int.tmod_lt_of_pos (IntKind.i64.wrap (ph + 1)) (show (0 : Int) < 8 by decide)
    have h2 := Int.lt_tmod_of_pos (IntKind.i64.wrap (ph + 1)) (show (0 : Int) < 8 by decide)
    exact ⟨by omega, by omega⟩
  have e12 : (x.Kind == 12) = false := by simp [k12]
  simp only [e12, cond_false]
  obtain ⟨_, _, a0, a1⟩ : 1 ≤ x.Kind ∧ x.Kind ≤ 8 ∧ 0 ≤ x.A ∧ x.A ≤ (n : Int) - 1 := by rcases hk with h | h | h <;> first | exact h | omega
  obtain ⟨r, hr, r0, r7⟩ := coef_le x.Kind
  rw [coef_eq, hr]
  simp only [Option.bind_some]
  by_cases hr0 : r = 0
  · have e : (r == 0) = true := by simp [hr0]
    simp only [e, cond_true, Option.bind_some, orR]
    exact .inr ⟨_, _, rfl, rfl, rfl, rfl⟩
  · have e : (r == 0) = false := by simp [hr0]
    obtain ⟨v, hv, hvN⟩ := hR.get a0 (by omega)
    obtain ⟨y1, f1, g1, w1, S1⟩ := hS.add (i := (v : Int)) (d := r) (by omega) (by omega) (by omega) (by omega)
    simp only [e, cond_false, hv, f1, g1, Option.bind_some, orR]
    exact .inl ⟨_, _, rfl, rfl, rfl, rfl, hR, S1.mono (by omega), hp⟩
theorem same_answer (c : TCircuit) (hlen : c.Gates.length ≤ 1048576) : ∃ r b, F_spec_PhasePolyOf c = some (r, b) ∧ F_impl_PhasePolyOf c = some (r, b) ∧ r.Terms.length ≤ 1099511627776 ∧ r.Out.Rows.length ≤ 1099511627776 := by
  unfold F_spec_PhasePolyOf F_impl_PhasePolyOf
  rw [spec_good, impl_good c hlen]
  simp only [Option.bind_some]
  cases hc : cOk c with
  | false => exact ⟨_, _, rfl, rfl, by simp, by simp⟩
  | true =>
    simp only [Bool.not_true, cond_false]
    unfold cOk at hc
    simp only [Bool.and_eq_true, decide_eq_true_eq] at hc
    obtain ⟨⟨⟨h1, h5⟩, hl⟩, hg⟩ := hc
    obtain ⟨R, i1, i2, i3, i4, i5⟩ := ident (n := c.Qubits) ⟨h1, h5⟩
    generalize hn : c.Qubits.toNat = n at i3 i5
    have hn5 : 1 ≤ n ∧ n ≤ 5 := by omega
    have hq : c.Qubits = (n : Int) := by omega
    have hN : 2 ^ n ≤ 32 := by
      have : n = 1 ∨ n = 2 ∨ n = 3 ∨ n = 4 ∨ n = 5 := by omega
      rcases this with rfl | rfl | rfl | rfl | rfl <;> decide
    have hM : ((2 ^ n : Nat) : Int) ≤ 1099511627776 := Int.ofNat_le.mpr (Nat.le_trans hN (by decide : 32 ≤ 1099511627776))
    rw [i5, chk_t i4, chk_t ⟨Int.natCast_nonneg _, hM⟩, i1, i2]
    simp only [Option.bind_some]
    rw [chk_t (show c.Gates.length ≤ 9223372036854775807 by omega), chk_t (show c.Gates.length ≤ 9223372036854775807 by omega), Int.toNat_natCast]
    have h0 : Beside n (2 ^ n) 0 (List.replicate (2 ^ n) 0, 0, R) (0, R, List.replicate 32 0) := by
      refine ⟨rfl, rfl, i3, ⟨by simp, by simp, hN, fun j x hx => ?_, fun j _ hj => by rw [List.getElem?_replicate, if_pos hj]⟩, by unfold I64; omega⟩
      have hj := (List.getElem?_eq_some_iff.1 hx).1
      simp only [List.length_replicate] at hj
      rw [List.getElem?_replicate, if_pos hj] at hx
      cases hx
      exact ⟨by omega, by omega, by rw [List.getElem?_replicate, if_pos (by omega)]; rfl⟩
    rcases forX2_inv (f := F_spec_PhasePolyOf_l1 c) (g := F_impl_PhasePolyOf_l1 c) (Beside n (2 ^ n)) (fun r r' => r = r' ∧ r = (TPhasePoly.mk 0 0 [] (TLinear.mk []), false)) c.Gates.length 0 _ _ h0
      (fun j s t _ hj hI => round hn5 hq hl hg j s t (by omega) hI) with ⟨s', t', e1, e2, hI⟩ | ⟨r, r', e1, e2, rfl, hr⟩
    · rw [e1, e2]
      obtain ⟨B, ph, R'⟩ := s'
      obtain ⟨ph', O, S⟩ := t'
      obtain ⟨a1, a2, a3, a4, _⟩ := hI
      simp only at a1 a2 a3 a4
      subst a1 a2
      obtain ⟨l, b1, b2, b3⟩ := terms_eq a4 (by omega)
      simp only [Option.bind_some, orR, b1, b2]
      exact ⟨_, _, rfl, rfl, by simp only; omega, by simp only; rw [a3.1]; omega⟩
    · rw [e1, e2]
      simp only [Option.bind_some, orR]
      exact ⟨r.1, r.2, rfl, rfl, by rw [hr]; simp, by rw [hr]; simp⟩
theorem law_FnExactPhasePolyOf (c : TCircuit) (hc : ok_Circuit c) : F_laws_FnExactPhasePolyOf c = some true := by
  by_cases hlen : c.Gates.length ≤ 1048576
  · obtain ⟨r, b, h⟩ := same_answer c hlen
    exact law_of c hc r b (fun _ => h)
  · exact law_of c hc default false (fun h => absurd h hlen)
end Go.VK
