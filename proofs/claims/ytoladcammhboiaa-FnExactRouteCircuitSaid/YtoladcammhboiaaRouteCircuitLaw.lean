/- The plain law of FnExactRouteCircuit: what its Lean function answers, for all arguments. -/
import Derived.Test.YtoladcammhboiaaRouteCircuitFn
import Derived.Test.YtoladcammhboiaaLibI
set_option maxRecDepth 10000
set_option maxHeartbeats 1000000
set_option linter.unusedSimpArgs false
set_option linter.unusedVariables false
namespace Go.VK
/-- A gate that is taken, over n wires. -/
def gOk (n : Int) (g : TGate) : Bool :=
  bif decide (1 ≤ g.Kind) && decide (g.Kind ≤ 8) then decide (0 ≤ g.A) && decide (g.A ≤ n - 1) && (g.B == 0)
  else bif decide (9 ≤ g.Kind) && decide (g.Kind ≤ 11) then decide (0 ≤ g.A) && decide (g.A ≤ n - 1) && (decide (0 ≤ g.B) && decide (g.B ≤ n - 1)) && (g.A != g.B)
  else (g.Kind == 12) && (g.A == 0) && (g.B == 0)
theorem spec_gate {n : Int} (hn : 1 ≤ n ∧ n ≤ 5) (g : TGate) : F_spec_l4Gate n g = some (gOk n g) := by
  unfold F_spec_l4Gate F_spec_l1In gOk
  rw [wrap_i64 (a := n - 1) ⟨by omega, by omega⟩]
  simp only [Option.bind_some, gb]
  cases decide (1 ≤ g.Kind) && decide (g.Kind ≤ 8) <;> cases decide (9 ≤ g.Kind) && decide (g.Kind ≤ 11) <;> simp only [cond_true, cond_false, Option.bind_some]
  all_goals cases decide (0 ≤ g.A) && decide (g.A ≤ n - 1) <;> simp
theorem impl_gate {n : Int} (hn : 1 ≤ n ∧ n ≤ 5) (g : TGate) : F_impl_IsValidGate n g = some (gOk n g) := by
  unfold F_impl_IsValidGate F_impl_isTwo F_impl_within gOk
  rw [wrap_i64 (a := n - 1) ⟨by omega, by omega⟩]
  have h1 : decide (1 ≤ n) = true := decide_eq_true hn.1
  have h5 : decide (n ≤ 5) = true := decide_eq_true hn.2
  simp only [Option.bind_some, gb, h1, h5, Bool.and_self, Bool.not_true, Bool.not_false, cond_true, Bool.false_or]
  by_cases hk : 1 ≤ g.Kind ∧ g.Kind ≤ 12
  · have e1 : (decide (1 ≤ g.Kind) && decide (g.Kind ≤ 12)) = true := by simp [hk]
    simp only [e1, Bool.not_true, cond_false]
    by_cases h12 : g.Kind = 12
    · simp [h12]
    · have e12 : (g.Kind == 12) = false := by simp [h12]
      simp only [e12, cond_false]
      by_cases h9 : 9 ≤ g.Kind
      · have a1 : (decide (9 ≤ g.Kind) && decide (g.Kind ≤ 11)) = true := by simp; omega
        have a2 : (decide (1 ≤ g.Kind) && decide (g.Kind ≤ 8)) = false := by simp; omega
        simp only [a1, a2, cond_true, cond_false]
        cases decide (0 ≤ g.A) && decide (g.A ≤ n - 1) <;> simp
      · have a1 : (decide (9 ≤ g.Kind) && decide (g.Kind ≤ 11)) = false := by simp; omega
        have a2 : (decide (1 ≤ g.Kind) && decide (g.Kind ≤ 8)) = true := by simp; omega
        simp only [a1, a2, cond_true, cond_false]
  · have e1 : (decide (1 ≤ g.Kind) && decide (g.Kind ≤ 12)) = false := by simp; omega
    have a1 : (decide (9 ≤ g.Kind) && decide (g.Kind ≤ 11)) = false := by simp; omega
    have a2 : (decide (1 ≤ g.Kind) && decide (g.Kind ≤ 8)) = false := by simp; omega
    have a3 : (g.Kind == 12) = false := by simp; omega
    simp [e1, a1, a2, a3]
/-- A circuit that is taken. -/
def cOk (c : TCircuit) : Bool := decide (1 ≤ c.Qubits) && decide (c.Qubits ≤ 5) && decide (c.Gates.length ≤ 400) && c.Gates.all (gOk c.Qubits)
theorem spec_good (c : TCircuit) : F_spec_l4Good c = some (cOk c) := by
  unfold F_spec_l4Good F_spec_l1In cOk
  simp only [Option.bind_some]
  by_cases hn : 1 ≤ c.Qubits ∧ c.Qubits ≤ 5
  · by_cases hl : c.Gates.length ≤ 400
    · have e : (!(decide (1 ≤ c.Qubits) && decide (c.Qubits ≤ 5)) || decide ((400 : Int) < (c.Gates.length : Int))) = false := by simp [hn]; omega
      rw [e, cond_false, chk_t (by omega)]
      rcases forX_any (f := F_spec_l4Good_l1 c) (l := c.Gates) (p := fun g => !gOk c.Qubits g) (q := fun _ => false) (fun i x hx => by
        unfold F_spec_l4Good_l1; simp only [getI_nat, hx, Option.bind_some, spec_gate hn]; cases gOk c.Qubits x <;> rfl) with ⟨h1, h2⟩ | ⟨h1, i, _, h2⟩
      · rw [h2]
        have : c.Gates.all (gOk c.Qubits) = true := by rw [List.all_eq_true]; intro x hx; have := List.any_eq_false.1 h1 x hx; simpa using this
        simp [orR, hn, hl, this]
      · rw [h2]
        have : c.Gates.all (gOk c.Qubits) = false := by
          obtain ⟨x, hx, hp⟩ := List.any_eq_true.1 h1
          rw [List.all_eq_false]; exact ⟨x, hx, by simpa using hp⟩
        simp [orR, this]
    · have e : (!(decide (1 ≤ c.Qubits) && decide (c.Qubits ≤ 5)) || decide ((400 : Int) < (c.Gates.length : Int))) = true := by simp; omega
      rw [e, cond_true]
      simp [hl]
  · have e : (!(decide (1 ≤ c.Qubits) && decide (c.Qubits ≤ 5)) || decide ((400 : Int) < (c.Gates.length : Int))) = true := by simp; omega
    rw [e, cond_true]
    have : (decide (1 ≤ c.Qubits) && decide (c.Qubits ≤ 5)) = false := by simp; omega
    simp [this]
theorem impl_good (c : TCircuit) (hlen : c.Gates.length ≤ 1048576) : F_impl_IsValidCircuit c = some (cOk c) := by
  unfold F_impl_IsValidCircuit F_impl_within cOk
  simp only [Option.bind_some]
  by_cases hn : 1 ≤ c.Qubits ∧ c.Qubits ≤ 5
  · by_cases hl : c.Gates.length ≤ 400
    · have e : (decide (1 ≤ c.Qubits) && decide (c.Qubits ≤ 5) && decide ((c.Gates.length : Int) ≤ 400)) = true := by simp [hn]; omega
      rw [e]
      have hf : ∀ i x, c.Gates[i]? = some x → F_slices_IndexFunc_impl_Gate_impl_Gate_l1 c.Gates (fun x_0 => F_impl_IsValidCircuit_1 x_0 c) i () = some (bif !gOk c.Qubits x then .rt (i : Int) else .nx ()) := fun i x hx => by
        unfold F_slices_IndexFunc_impl_Gate_impl_Gate_l1 F_impl_IsValidCircuit_1
        simp only [getI_nat, hx, Option.bind_some, impl_gate hn]
        cases gOk c.Qubits x <;> rfl
      unfold F_slices_ContainsFunc_impl_Gate_impl_Gate F_slices_IndexFunc_impl_Gate_impl_Gate
      rw [chk_t (by omega)]
      rcases forX_any hf with ⟨h1, h2⟩ | ⟨h1, i, _, h2⟩
      · rw [h2]
        have : c.Gates.all (gOk c.Qubits) = true := by rw [List.all_eq_true]; intro x hx; have := List.any_eq_false.1 h1 x hx; simpa using this
        simp [orR, hn, hl, this, gb]
      · rw [h2]
        have : c.Gates.all (gOk c.Qubits) = false := by
          obtain ⟨x, hx, hp⟩ := List.any_eq_true.1 h1
          rw [List.all_eq_false]; exact ⟨x, hx, by simpa using hp⟩
        simp [orR, this, gb]
    · have e : (decide (1 ≤ c.Qubits) && decide (c.Qubits ≤ 5) && decide ((c.Gates.length : Int) ≤ 400)) = false := by simp; omega
      rw [e]
      simp [gb, hl]
  · have this : (decide (1 ≤ c.Qubits) && decide (c.Qubits ≤ 5)) = false := by simp; omega
    simp [gb, this]
theorem gOk_cases {n : Int} {g : TGate} (h : gOk n g = true) : (1 ≤ g.Kind ∧ g.Kind ≤ 8 ∧ 0 ≤ g.A ∧ g.A ≤ n - 1) ∨ (9 ≤ g.Kind ∧ g.Kind ≤ 11 ∧ 0 ≤ g.A ∧ g.A ≤ n - 1 ∧ 0 ≤ g.B ∧ g.B ≤ n - 1 ∧ g.A ≠ g.B) ∨ g.Kind = 12 := by
  unfold gOk at h
  by_cases h1 : 1 ≤ g.Kind ∧ g.Kind ≤ 8
  · have e : (decide (1 ≤ g.Kind) && decide (g.Kind ≤ 8)) = true := by simp [h1]
    rw [e, cond_true] at h
    simp at h
    exact .inl ⟨h1.1, h1.2, h.1.1, h.1.2⟩
  · have e : (decide (1 ≤ g.Kind) && decide (g.Kind ≤ 8)) = false := by simp; omega
    rw [e, cond_false] at h
    by_cases h2 : 9 ≤ g.Kind ∧ g.Kind ≤ 11
    · have e : (decide (9 ≤ g.Kind) && decide (g.Kind ≤ 11)) = true := by simp [h2]
      rw [e, cond_true] at h
      simp at h
      exact .inr (.inl ⟨h2.1, h2.2, h.1.1.1, h.1.1.2, h.1.2.1, h.1.2.2, h.2⟩)
    · have e : (decide (9 ≤ g.Kind) && decide (g.Kind ≤ 11)) = false := by simp; omega
      rw [e, cond_false] at h
      simp at h
      exact .inr (.inr h.1.1)
def eOk (n : Int) (x : TEdge) : Bool := decide (0 ≤ x.A) && decide (x.A < x.B) && decide (x.B < n)
def dEdge : TEdge := TEdge.mk 0 0
def ordB (E : List TEdge) (i : Nat) (x : TEdge) : Bool := decide (x.A < (E.getD (i - 1) dEdge).A) || (((E.getD (i - 1) dEdge).A == x.A) && decide (x.B ≤ (E.getD (i - 1) dEdge).B))
theorem bsR {ρ : Type} {b : Bool} {x y : Ex Unit ρ} : (bif b then some x else some y) = some (bif b then x else y) := by cases b <;> rfl
theorem getI_dec {α : Type} {l : List α} {i : Nat} (d : α) (h0 : 0 < i) (hi : i < l.length) (hl : l.length ≤ 1048576) : getI l (IntKind.i64.wrap ((i : Int) - 1)) = some (l.getD (i - 1) d) := by
  rw [wrap_i64 ⟨by omega, by omega⟩, show (i : Int) - 1 = ((i - 1 : Nat) : Int) by omega, getI_nat, List.getElem?_eq_getElem (by omega)]
  simp [List.getD, show i - 1 < l.length by omega]
theorem getI_gd {α : Type} {l : List α} {k : Int} (d : α) (h0 : 0 ≤ k) (h1 : k < l.length) : getI l k = some (l.getD k.toNat d) := by
  obtain ⟨x, e1, e2⟩ := getI_at h0 h1
  rw [e1]; simp [List.getD, e2]
theorem edge_spec {g : TCouplingGraph} {i : Nat} {x : TEdge} (hx : g.Edges[i]? = some x) (hl : g.Edges.length ≤ 1048576) : F_spec_l22Valid_l1 g i () = some (bif (!((decide (0 ≤ x.A) && decide (x.A ≤ IntKind.i64.wrap (x.B - 1))) && (decide (0 ≤ x.B) && decide (x.B ≤ IntKind.i64.wrap (g.Nodes - 1))))) || (decide (0 < (i : Int)) && ordB g.Edges i x) then .rt false else .nx ()) := by
  have hi : i < g.Edges.length := (List.getElem?_eq_some_iff.1 hx).1
  unfold F_spec_l22Valid_l1 F_spec_l1In
  simp only [getI_nat, hx, Option.bind_some]
  cases h1 : decide (0 ≤ x.A) && decide (x.A ≤ IntKind.i64.wrap (x.B - 1)) with
  | false => simp only [Bool.not_false, Bool.not_true, gb, cond_false, Option.bind_some, Bool.true_or, cond_true, Bool.false_and]
  | true =>
    simp only [Bool.not_true, Bool.not_false, gb, cond_true, Option.bind_some, Bool.false_or, Bool.true_and]
    cases h2 : decide (0 ≤ x.B) && decide (x.B ≤ IntKind.i64.wrap (g.Nodes - 1)) with
    | false => simp only [Bool.not_false, Bool.true_or, cond_true]
    | true =>
      simp only [Bool.not_true, Bool.false_or, cond_false]
      by_cases h0 : 0 < i
      · have e0 : decide (0 < (i : Int)) = true := decide_eq_true (by omega)
        rw [e0, getI_dec dEdge h0 hi hl]
        unfold ordB
        generalize g.Edges.getD (i - 1) dEdge = y
        simp only [cond_true, Option.bind_some, Bool.true_and]
        cases hA : decide (x.A < y.A) with
        | true => simp only [Bool.not_true, cond_false, Option.bind_some, Bool.false_and, Bool.true_or, cond_true]
        | false =>
          simp only [Bool.not_false, cond_true, Option.bind_some, Bool.false_or]
          cases hB : y.A == x.A with
          | true => simp only [cond_true, Option.bind_some, Bool.true_and]; exact bsR
          | false => simp only [cond_false, Option.bind_some, Bool.false_and, Bool.and_false]
      · have e0 : decide (0 < (i : Int)) = false := decide_eq_false (by omega)
        rw [e0]
        simp only [cond_false, Option.bind_some, Bool.false_and]
theorem edge_impl {E : List TEdge} {n : Int} {i : Nat} {x : TEdge} (hx : E[i]? = some x) (hl : E.length ≤ 1048576) : F_impl_areEdges_l1 E n i () = some (bif (!eOk n x) || (decide (0 < (i : Int)) && ordB E i x) then .rt false else .nx ()) := by
  have hi : i < E.length := (List.getElem?_eq_some_iff.1 hx).1
  have hb : (((decide (x.A < 0)) || (decide (x.B ≤ x.A))) || (decide (n ≤ x.B))) = !eOk n x := by
    unfold eOk
    rw [Bool.eq_iff_iff]
    simp only [Bool.or_eq_true, decide_eq_true_eq, Bool.not_eq_true', Bool.and_eq_false_iff, decide_eq_false_iff_not]
    omega
  unfold F_impl_areEdges_l1
  simp only [getI_nat, hx, Option.bind_some, hb]
  cases eOk n x with
  | false => simp only [Bool.not_false, Bool.not_true, gb, cond_false, Option.bind_some, Bool.true_or, cond_true, Bool.false_and]
  | true =>
    simp only [Bool.not_true, Bool.not_false, Bool.true_and, Bool.false_or]
    by_cases h0 : 0 < i
    · have e0 : decide (0 < (i : Int)) = true := decide_eq_true (by omega)
      rw [e0, getI_dec dEdge h0 hi hl]
      unfold ordB
      generalize E.getD (i - 1) dEdge = y
      simp only [gb, cond_true, Option.bind_some, Bool.true_and]
      cases hA : decide (x.A < y.A) with
      | true => simp only [Bool.not_true, cond_false, Option.bind_some, Bool.false_and, Bool.true_or, cond_true]
      | false =>
        simp only [Bool.not_false, cond_true, Option.bind_some, Bool.false_or]
        cases hB : y.A == x.A with
        | true => simp only [cond_true, Option.bind_some, Bool.true_and]; exact bsR
        | false => simp only [cond_false, Option.bind_some, Bool.false_and, Bool.and_false]
    · have e0 : decide (0 < (i : Int)) = false := decide_eq_false (by omega)
      rw [e0]
      simp only [gb, cond_false, Option.bind_some, Bool.false_and]
theorem graph_both (g : TCouplingGraph) (hl : g.Edges.length ≤ 1048576) : ∃ b, F_spec_l22Valid g = some b ∧ F_impl_IsValidCouplingGraph g = some b ∧ (b = true → (1 ≤ g.Nodes ∧ g.Nodes ≤ 8) ∧ ∀ x ∈ g.Edges, eOk g.Nodes x = true) := by
  unfold F_spec_l22Valid F_impl_IsValidCouplingGraph F_impl_areEdges F_spec_l1In F_impl_within
  rw [chk_t (by omega), chk_t (by omega)]
  simp only [Option.bind_some]
  by_cases hn : 1 ≤ g.Nodes ∧ g.Nodes ≤ 8
  · have en : (decide (1 ≤ g.Nodes) && decide (g.Nodes ≤ 8)) = true := by simp [hn]
    rw [en]
    simp only [gb, cond_true, Bool.true_and]
    rcases forX2_inv (f := F_spec_l22Valid_l1 g) (g := F_impl_areEdges_l1 g.Edges g.Nodes) (fun j _ _ => ∀ i, i < j → ∀ x, g.Edges[i]? = some x → eOk g.Nodes x = true) (fun r r' => r = false ∧ r' = false) g.Edges.length 0 () () (fun i hi => absurd hi (Nat.not_lt_zero _)) (fun i s t _ hi hI => by
      have hx := List.getElem?_eq_getElem (show i < g.Edges.length by omega)
      generalize g.Edges[i] = x at hx
      have h1 := edge_spec hx hl
      have h2 := edge_impl (n := g.Nodes) hx hl
      have he : (!((decide (0 ≤ x.A) && decide (x.A ≤ IntKind.i64.wrap (x.B - 1))) && (decide (0 ≤ x.B) && decide (x.B ≤ IntKind.i64.wrap (g.Nodes - 1))))) = !eOk g.Nodes x := by
        rw [wrap_i64 (a := g.Nodes - 1) ⟨by omega, by omega⟩]
        congr 1
        unfold eOk
        by_cases hB : 0 ≤ x.B ∧ x.B ≤ g.Nodes - 1
        · rw [wrap_i64 (a := x.B - 1) ⟨by omega, by omega⟩, Bool.eq_iff_iff]
          simp only [Bool.and_eq_true, decide_eq_true_eq]
          omega
        · rw [Bool.eq_iff_iff]
          simp only [Bool.and_eq_true, decide_eq_true_eq]
          omega
      rw [he] at h1
      cases hr : (!eOk g.Nodes x) || (decide (0 < (i : Int)) && ordB g.Edges i x) with
      | true =>
        rw [hr] at h1 h2
        exact .inr ⟨false, false, h1, h2, rfl, rfl⟩
      | false =>
        rw [hr] at h1 h2
        refine .inl ⟨(), (), h1, h2, fun j hj y hy => ?_⟩
        rcases Nat.lt_succ_iff_lt_or_eq.1 hj with h | rfl
        · exact hI j h y hy
        · rw [hx] at hy; cases hy
          simp only [Bool.or_eq_false_iff, Bool.not_eq_false'] at hr
          exact hr.1) with ⟨_, _, h1, h2, h3⟩ | ⟨r, r', h1, h2, rfl, rfl⟩
    · rw [h1, h2]
      refine ⟨true, rfl, rfl, fun _ => ⟨hn, fun x hx => ?_⟩⟩
      obtain ⟨i, hi⟩ := List.mem_iff_getElem?.1 hx
      exact h3 i (by have := (List.getElem?_eq_some_iff.1 hi).1; omega) x hi
    · rw [h1, h2]
      exact ⟨false, rfl, rfl, fun h => by cases h⟩
  · have en : (decide (1 ≤ g.Nodes) && decide (g.Nodes ≤ 8)) = false := by rw [Bool.and_eq_false_iff, decide_eq_false_iff_not, decide_eq_false_iff_not]; omega
    rw [en]
    simp only [gb, cond_false, Option.bind_some, Bool.false_and]
    refine ⟨false, ?_, rfl, fun h => by cases h⟩
    rcases forX_inv (f := F_spec_l22Valid_l1 g) (fun _ _ => True) (fun r => r = false) g.Edges.length 0 () trivial (fun i s _ hi _ => by
      have hx := List.getElem?_eq_getElem (show i < g.Edges.length by omega)
      generalize g.Edges[i] = x at hx
      have h1 := edge_spec hx hl
      cases hr : (!((decide (0 ≤ x.A) && decide (x.A ≤ IntKind.i64.wrap (x.B - 1))) && (decide (0 ≤ x.B) && decide (x.B ≤ IntKind.i64.wrap (g.Nodes - 1))))) || (decide (0 < (i : Int)) && ordB g.Edges i x) with
      | true => rw [hr] at h1; exact .inr ⟨false, h1, rfl⟩
      | false => rw [hr] at h1; exact .inl ⟨(), h1, trivial⟩) with ⟨_, h1, _⟩ | ⟨r, h1, rfl⟩
    · rw [h1]; rfl
    · rw [h1]; rfl
def joinsB (E : List TEdge) (a b : Int) : Bool := E.any fun x => ((x.A == a) && (x.B == b)) || ((x.A == b) && (x.B == a))
theorem spec_joins {g : TCouplingGraph} (hl : g.Edges.length ≤ 1048576) (a b : Int) : F_spec_l22Edge g a b = some (joinsB g.Edges a b) := by
  unfold F_spec_l22Edge joinsB
  rw [chk_t (by omega)]
  rcases forX_any (f := F_spec_l22Edge_l1 g a b) (l := g.Edges) (p := fun x => ((x.A == a) && (x.B == b)) || ((x.A == b) && (x.B == a))) (q := fun _ => true) (fun i x hx => by
    unfold F_spec_l22Edge_l1
    simp only [getI_nat, hx, Option.bind_some, bsR]) with ⟨h1, h2⟩ | ⟨h1, i, _, h2⟩
  · rw [h2, h1]; rfl
  · rw [h2, h1]; rfl
theorem impl_joins {g : TCouplingGraph} (hl : g.Edges.length ≤ 1048576) (he : ∀ x ∈ g.Edges, eOk g.Nodes x = true) (a b : Int) : F_impl_CouplingGraph_joins g a b = some (joinsB g.Edges a b) := by
  unfold F_impl_CouplingGraph_joins F_slices_Contains_impl_Edge_impl_Edge F_slices_Index_impl_Edge_impl_Edge
  rw [chk_t (by omega)]
  have hj : joinsB g.Edges a b = g.Edges.any fun x => (((if b < a then b else a) == x.A) && (((if a < b then b else a) == x.B) && true)) := by
    unfold joinsB
    rw [Bool.eq_iff_iff, List.any_eq_true, List.any_eq_true]
    constructor
    · rintro ⟨x, hx, hp⟩
      refine ⟨x, hx, ?_⟩
      have := he x hx
      unfold eOk at this
      simp only [Bool.and_eq_true, decide_eq_true_eq, Bool.or_eq_true, beq_iff_eq, Bool.and_true] at *
      split <;> split <;> omega
    · rintro ⟨x, hx, hp⟩
      refine ⟨x, hx, ?_⟩
      have := he x hx
      unfold eOk at this
      simp only [Bool.and_eq_true, decide_eq_true_eq, Bool.or_eq_true, beq_iff_eq, Bool.and_true] at *
      obtain ⟨p1, p2⟩ := hp
      split at p1 <;> split at p2 <;> omega
  rcases forX_any (f := F_slices_Index_impl_Edge_impl_Edge_l1 g.Edges (TEdge.mk (if b < a then b else a) (if a < b then b else a))) (l := g.Edges) (p := fun x => (((if b < a then b else a) == x.A) && (((if a < b then b else a) == x.B) && true))) (q := fun i => (i : Int)) (fun i x hx => by
    unfold F_slices_Index_impl_Edge_impl_Edge_l1
    simp only [getI_nat, hx, Option.bind_some, bsR]) with ⟨h1, h2⟩ | ⟨h1, i, _, h2⟩
  · rw [h2, hj, h1]; rfl
  · rw [h2, hj, h1]; simp [orR]
theorem joins_in {E : List TEdge} {n : Int} (he : ∀ x ∈ E, eOk n x = true) {a b : Int} (h : joinsB E a b = true) : 0 ≤ a ∧ a < n ∧ 0 ≤ b ∧ b < n ∧ a ≠ b := by
  obtain ⟨x, hx, hp⟩ := List.any_eq_true.1 h
  have := he x hx
  unfold eOk at this
  simp only [Bool.and_eq_true, decide_eq_true_eq, Bool.or_eq_true, beq_iff_eq] at *
  omega
theorem hasR {l : List Int} (hl : l.length ≤ 9223372036854775807) (w : Int) : F_spec_l1Has l w = some (l.any fun x => x == w) := by
  unfold F_spec_l1Has
  rw [chk_t hl]
  rcases forX_any (f := F_spec_l1Has_l1 l w) (l := l) (p := fun x => x == w) (q := fun _ => true) (fun i x hx => by
    unfold F_spec_l1Has_l1
    simp only [getI_nat, hx, Option.bind_some, bsR]) with ⟨h1, h2⟩ | ⟨h1, i, _, h2⟩
  · rw [h2, h1]; rfl
  · rw [h2, h1]; rfl
theorem containsR {l : List Int} (hl : l.length ≤ 9223372036854775807) (w : Int) : F_slices_Contains_int_int l w = some (l.any fun x => x == w) := by
  unfold F_slices_Contains_int_int F_slices_Index_int_int
  rw [chk_t hl]
  rcases forX_any (f := F_slices_Index_int_int_l1 l w) (l := l) (p := fun x => x == w) (q := fun i => (i : Int)) (fun i x hx => by
    unfold F_slices_Index_int_int_l1
    have e : (w == x) = (x == w) := by rw [Bool.eq_iff_iff]; simp only [beq_iff_eq]; exact eq_comm
    simp only [getI_nat, hx, Option.bind_some, e, bsR]) with ⟨h1, h2⟩ | ⟨h1, i, _, h2⟩
  · rw [h2, h1]; rfl
  · rw [h2, h1]; simp [orR]
def PlOk (N : Int) (l : List Int) : Prop := (∀ x ∈ l, 0 ≤ x ∧ x < N) ∧ l.Pairwise (· ≠ ·)
theorem place_both {g : TCouplingGraph} (hn : 1 ≤ g.Nodes ∧ g.Nodes ≤ 8) (n : Int) (p : List Int) (hp : p.length ≤ 1048576) : ∃ b, F_spec_l23Placement g n p = some b ∧ F_impl_CouplingGraph_isPlacement g n p = some b ∧ (b = true → (p.length : Int) = n ∧ PlOk g.Nodes p) := by
  unfold F_spec_l23Placement F_impl_CouplingGraph_isPlacement
  rw [chk_t (by omega), chk_t (by omega)]
  rcases forX2_inv (f := F_spec_l23Placement_l1 p g) (g := F_impl_CouplingGraph_isPlacement_l1 p g) (fun j _ _ => PlOk g.Nodes (p.take j)) (fun r r' => r = false ∧ r' = false) p.length 0 () () ⟨fun x hx => by simp at hx, by simp⟩ (fun i s t _ hi hI => by
    have hx := List.getElem?_eq_getElem (show i < p.length by omega)
    have htk : p.take (i + 1) = p.take i ++ [p[i]] := by rw [List.take_add_one, hx]; rfl
    generalize p[i] = x at hx htk
    unfold F_spec_l23Placement_l1 F_impl_CouplingGraph_isPlacement_l1 F_spec_l1In F_impl_within
    simp only [getI_nat, hx, Option.bind_some]
    rw [wrap_i64 (a := g.Nodes - 1) ⟨by omega, by omega⟩]
    cases hr : decide (0 ≤ x) && decide (x ≤ g.Nodes - 1) with
    | false => exact .inr ⟨false, false, rfl, rfl, rfl, rfl⟩
    | true =>
      simp only [Bool.not_true, Bool.not_false, cond_true]
      have hl : (p.take i).length ≤ 9223372036854775807 := by rw [List.length_take]; omega
      rw [chk_t ⟨by omega, by omega⟩, chk_t ⟨by omega, by omega⟩, hasR hl, containsR hl]
      simp only [Option.bind_some]
      cases ha : (p.take i).any fun y => y == x with
      | true => exact .inr ⟨false, false, rfl, rfl, rfl, rfl⟩
      | false =>
        refine .inl ⟨(), (), rfl, rfl, ?_⟩
        simp only [Bool.and_eq_true, decide_eq_true_eq] at hr
        rw [htk]
        refine ⟨fun y hy => ?_, ?_⟩
        · rcases List.mem_append.1 hy with hy | hy
          · exact hI.1 y hy
          · rw [List.mem_singleton] at hy; subst hy; omega
        · rw [List.pairwise_append]
          refine ⟨hI.2, List.pairwise_singleton _ _, fun a haa b hb => ?_⟩
          rw [List.mem_singleton] at hb; subst hb
          have := List.any_eq_false.1 ha a haa
          simpa using this) with ⟨_, _, h1, h2, h3⟩ | ⟨r, r', h1, h2, rfl, rfl⟩
  · rw [h1, h2]
    refine ⟨_, rfl, rfl, fun h => ⟨by simpa using h, ?_⟩⟩
    rw [Nat.zero_add, List.take_length] at h3
    exact h3
  · rw [h1, h2]
    exact ⟨false, rfl, rfl, fun h => by cases h⟩
def swp (a b x : Int) : Int := bif x == a then b else bif x == b then a else x
theorem swp_inj {a b x y : Int} (h : swp a b x = swp a b y) : x = y := by
  have e : ∀ z, swp a b z = if z = a then b else if z = b then a else z := fun z => by
    unfold swp
    by_cases h1 : z = a
    · simp [h1]
    · by_cases h2 : z = b
      · simp [h2]
      · have e1 : (z == a) = false := by simpa using h1
        have e2 : (z == b) = false := by simpa using h2
        rw [e1, e2, if_neg h1, if_neg h2]; rfl
  rw [e, e] at h
  repeat' split at h
  all_goals omega
def swapL (l : List Int) (a b : Int) : List Int := l.map (swp a b)
theorem swap_spec {p : List Int} (hp : p.length ≤ 1048576) (a b : Int) : F_spec_l23Swap p a b = some (swapL p a b) := by
  unfold F_spec_l23Swap F_spec_l1Own
  rw [chk_t (by omega)]
  simp only [Option.bind_some]
  rw [chk_t (by omega)]
  obtain ⟨s, h1, h2, h3⟩ := forN_inv (f := F_spec_l23Swap_l1 p a b) (fun j s => s.length = p.length ∧ ∀ i, s[i]? = if i < j then (p[i]?).map (swp a b) else p[i]?) p.length 0 p ⟨rfl, fun i => by simp⟩ (fun j s _ hj ⟨hs, hI⟩ => by
    have hx := List.getElem?_eq_getElem (show j < p.length by omega)
    have hsj := List.getElem?_eq_getElem (show j < s.length by omega)
    generalize p[j] = x at hx
    unfold F_spec_l23Swap_l1
    simp only [getI_nat, hx, hsj, Option.bind_some]
    have hnew : ∀ y, y = swp a b x → (s.set j y).length = p.length ∧ ∀ i, (s.set j y)[i]? = if i < j + 1 then (p[i]?).map (swp a b) else p[i]? := fun y hy => by
      refine ⟨by simpa using hs, fun i => ?_⟩
      rw [List.getElem?_set]
      by_cases hij : j = i
      · subst hij
        rw [if_pos rfl, if_pos (by omega), if_pos (by omega), hx, hy]; rfl
      · rw [if_neg hij, hI i]
        by_cases h : i < j
        · rw [if_pos h, if_pos (by omega)]
        · rw [if_neg h, if_neg (by omega)]
    cases h1 : x == a with
    | true => exact ⟨_, rfl, hnew b (by unfold swp; rw [h1]; rfl)⟩
    | false =>
      cases h2 : x == b with
      | true => exact ⟨_, rfl, hnew a (by unfold swp; rw [h1, h2]; rfl)⟩
      | false =>
        refine ⟨s, rfl, hs, fun i => ?_⟩
        rw [hI i]
        by_cases hij : i = j
        · subst hij
          rw [if_neg (by omega), if_pos (by omega), hx]
          simp [swp, h1, h2]
        · by_cases h : i < j
          · rw [if_pos h, if_pos (by omega)]
          · rw [if_neg h, if_neg (by omega)])
  rw [h1]
  simp only [Option.bind_some, Option.some.injEq]
  apply List.ext_getElem?
  intro i
  rw [h3 i]
  unfold swapL
  rw [List.getElem?_map]
  by_cases h : i < 0 + p.length
  · rw [if_pos h]
  · rw [if_neg h, List.getElem?_eq_none (by omega)]; rfl
theorem swap_impl {p : List Int} (hp : p.length ≤ 1048576) (g : TCouplingGraph) (c : TCircuit) (dn : List Bool) (a b : Int) : F_impl_routing_swap (Trouting.mk g c p dn) a b = some (swapL p a b) := by
  unfold F_impl_routing_swap
  simp only
  rw [chk_t (by omega)]
  obtain ⟨s, h1, h2, h3⟩ := forN_inv (f := F_impl_routing_swap_l1 a b) (fun j s => s.length = p.length ∧ ∀ i, s[i]? = if i < j then (p[i]?).map (swp a b) else p[i]?) p.length 0 p ⟨rfl, fun i => by simp⟩ (fun j s _ hj ⟨hs, hI⟩ => by
    have hx := List.getElem?_eq_getElem (show j < p.length by omega)
    have hsj : s[j]? = p[j]? := by rw [hI j, if_neg (by omega)]
    rw [hx] at hsj
    generalize p[j] = x at hx hsj
    unfold F_impl_routing_swap_l1
    simp only [getI_nat, hsj, Option.bind_some]
    have hnew : ∀ y, y = swp a b x → (s.set j y).length = p.length ∧ ∀ i, (s.set j y)[i]? = if i < j + 1 then (p[i]?).map (swp a b) else p[i]? := fun y hy => by
      refine ⟨by simpa using hs, fun i => ?_⟩
      rw [List.getElem?_set]
      by_cases hij : j = i
      · subst hij
        rw [if_pos rfl, if_pos (by omega), if_pos (by omega), hx, hy]; rfl
      · rw [if_neg hij, hI i]
        by_cases h : i < j
        · rw [if_pos h, if_pos (by omega)]
        · rw [if_neg h, if_neg (by omega)]
    cases h1 : x == a with
    | true => exact ⟨_, rfl, hnew b (by unfold swp; rw [h1]; rfl)⟩
    | false =>
      cases h2 : x == b with
      | true => exact ⟨_, rfl, hnew a (by unfold swp; rw [h1, h2]; rfl)⟩
      | false =>
        refine ⟨s, rfl, hs, fun i => ?_⟩
        rw [hI i]
        by_cases hij : i = j
        · subst hij
          rw [if_neg (by omega), if_pos (by omega), hx]
          simp [swp, h1, h2]
        · by_cases h : i < j
          · rw [if_pos h, if_pos (by omega)]
          · rw [if_neg h, if_neg (by omega)])
  rw [h1]
  simp only [Option.bind_some, Option.some.injEq]
  apply List.ext_getElem?
  intro i
  rw [h3 i]
  unfold swapL
  rw [List.getElem?_map]
  by_cases h : i < 0 + p.length
  · rw [if_pos h]
  · rw [if_neg h, List.getElem?_eq_none (by omega)]; rfl
theorem PlOk.swap {N : Int} {l : List Int} (h : PlOk N l) {a b : Int} (ha : 0 ≤ a ∧ a < N) (hb : 0 ≤ b ∧ b < N) : PlOk N (swapL l a b) := by
  refine ⟨fun x hx => ?_, ?_⟩
  · obtain ⟨y, hy, rfl⟩ := List.mem_map.1 hx
    have := h.1 y hy
    unfold swp
    cases y == a with
    | true => exact hb
    | false => cases y == b with
      | true => exact ha
      | false => exact this
  · unfold swapL
    rw [List.pairwise_map]
    exact h.2.imp (fun hne he => hne (swp_inj he))
def twoB (x : TGate) : Bool := decide (9 ≤ x.Kind) && decide (x.Kind ≤ 11)
def qsOf (x : TGate) : List Int := bif x.Kind == 12 then [] else bif twoB x then [x.A, x.B] else [x.A]
theorem two_spec (x : TGate) : F_spec_l22Two x = some (twoB x) := by
  unfold F_spec_l22Two twoB
  congr 1
  rw [Bool.eq_iff_iff]
  simp only [Bool.or_eq_true, beq_iff_eq, Bool.and_eq_true, decide_eq_true_eq]
  omega
theorem two_impl (x : TGate) : F_impl_isTwo x.Kind = some (twoB x) := rfl
theorem qs_spec (x : TGate) : F_spec_l23Qubits x = some (qsOf x) := by
  unfold F_spec_l23Qubits qsOf
  rw [two_spec]
  cases x.Kind == 12 <;> cases twoB x <;> rfl
theorem qs_impl (x : TGate) : F_impl_qubitsOf x = some (qsOf x) := by
  unfold F_impl_qubitsOf qsOf
  rw [two_impl]
  cases x.Kind == 12 <;> cases twoB x <;> rfl
theorem qs_len (x : TGate) : (qsOf x).length ≤ 2 := by
  unfold qsOf
  cases x.Kind == 12 <;> cases twoB x <;> simp
def commB (g h : TGate) : Bool := (qsOf g).any fun q => (qsOf h).any fun r => r == q
theorem meet_eq (g h : TGate) : F_impl_meet g h = some (commB g h) := by
  unfold F_impl_meet F_slices_ContainsFunc_int_int F_slices_IndexFunc_int_int commB
  have hl := qs_len g
  have hl2 := qs_len h
  rw [qs_impl]
  simp only [Option.bind_some]
  rw [chk_t (by omega)]
  rcases forX_any (f := F_slices_IndexFunc_int_int_l1 (qsOf g) (fun x_0 => F_impl_meet_1 x_0 h)) (l := qsOf g) (p := fun q => (qsOf h).any fun r => r == q) (q := fun i => (i : Int)) (fun i x hx => by
    unfold F_slices_IndexFunc_int_int_l1 F_impl_meet_1
    simp only [getI_nat, hx, Option.bind_some, qs_impl, containsR (l := qsOf h) (by omega), bsR]) with ⟨h1, h2⟩ | ⟨h1, i, _, h2⟩
  · rw [h2, h1]; rfl
  · rw [h2, h1]; simp [orR]
def dGate : TGate := TGate.mk 0 0 0
def rdB (c : TCircuit) (dn : List Bool) (k : Int) : Bool :=
  (decide (0 ≤ k) && decide (k < (c.Gates.length : Int))) && (!(dn.getD k.toNat false) && !((List.range k.toNat).any fun i => !(dn.getD i false) && commB (c.Gates.getD i dGate) (c.Gates.getD k.toNat dGate)))
theorem range_any {n : Nat} {ρ : Type} {f : Nat → Unit → Option (Ex Unit ρ)} {p : Nat → Bool} {q : ρ} (hf : ∀ i, i < n → f i () = some (bif p i then .rt q else .nx ())) : forX f n 0 () = some (bif (List.range n).any p then .inr q else .inl ()) := by
  rcases forX_any (f := f) (l := List.range n) (p := p) (q := fun _ => q) (fun i x hx => by
    have hi : i < n := by have := (List.getElem?_eq_some_iff.1 hx).1; simpa using this
    have : x = i := by
      rw [List.getElem?_range hi] at hx; exact (Option.some.inj hx).symm
    subst this
    exact hf x hi) with ⟨h1, h2⟩ | ⟨h1, i, _, h2⟩
  · rw [List.length_range] at h2; rw [h2, h1]; rfl
  · rw [List.length_range] at h2; rw [h2, h1]; rfl
theorem ready_spec {c : TCircuit} {dn : List Bool} (hl : c.Gates.length ≤ 400) (hd : dn.length = c.Gates.length) (k : Int) : F_spec_l23Ready c dn k = some (rdB c dn k) := by
  unfold F_spec_l23Ready F_spec_l1In rdB
  rw [wrap_i64 (a := (c.Gates.length : Int) - 1) ⟨by omega, by omega⟩]
  simp only [Option.bind_some]
  have er : (decide (0 ≤ k) && decide (k ≤ (c.Gates.length : Int) - 1)) = (decide (0 ≤ k) && decide (k < (c.Gates.length : Int))) := by
    rw [Bool.eq_iff_iff]; simp only [Bool.and_eq_true, decide_eq_true_eq]; omega
  rw [er]
  cases hr : decide (0 ≤ k) && decide (k < (c.Gates.length : Int)) with
  | false => simp only [Bool.not_false, Bool.not_true, gb, cond_false, Option.bind_some, Bool.true_or, cond_true, Bool.false_and]
  | true =>
    simp only [Bool.and_eq_true, decide_eq_true_eq] at hr
    simp only [Bool.not_true, Bool.not_false, gb, cond_true, Bool.false_or, Bool.true_and]
    rw [getI_gd false hr.1 (by omega), getI_gd dGate hr.1 (by omega)]
    simp only [Option.bind_some]
    cases hdk : dn.getD k.toNat false with
    | true => simp only [cond_true, Bool.not_true, Bool.false_and]
    | false =>
      simp only [cond_false, Bool.not_false, Bool.true_and, qs_spec, Option.bind_some]
      rw [chk_t (by omega), range_any (p := fun i => !(dn.getD i false) && commB (c.Gates.getD i dGate) (c.Gates.getD k.toNat dGate)) (q := false) (fun i hi => by
        unfold F_spec_l23Ready_l1
        have h1 := getI_gd (l := c.Gates) dGate (k := (i : Int)) (by omega) (by omega)
        have h2 := getI_gd (l := dn) false (k := (i : Int)) (by omega) (by omega)
        rw [Int.toNat_natCast] at h1 h2
        rw [h1]
        simp only [Option.bind_some, qs_spec]
        have hq := qs_len (c.Gates.getD i dGate)
        have hq2 := qs_len (c.Gates.getD k.toNat dGate)
        rw [chk_t (by omega)]
        rcases forX_any (f := F_spec_l23Ready_l2 (qsOf (c.Gates.getD i dGate)) dn i (qsOf (c.Gates.getD k.toNat dGate))) (l := qsOf (c.Gates.getD i dGate)) (p := fun q => !(dn.getD i false) && (qsOf (c.Gates.getD k.toNat dGate)).any fun r => r == q) (q := fun _ => (Ex.rt false : Ex Unit Bool)) (fun j x hx => by
          unfold F_spec_l23Ready_l2
          simp only [getI_nat (l := qsOf _), hx, Option.bind_some, h2, hasR (l := qsOf (c.Gates.getD k.toNat dGate)) (by omega), gb]
          cases dn.getD i false
          · simp only [Bool.not_false, cond_true, Option.bind_some, Bool.true_and, bsR]
          · simp only [Bool.not_true, cond_false, Option.bind_some, Bool.false_and]) with ⟨g1, g2⟩ | ⟨g1, j, _, g2⟩
        · rw [g2]
          have : (!(dn.getD i false) && commB (c.Gates.getD i dGate) (c.Gates.getD k.toNat dGate)) = false := by
            unfold commB
            cases hdi : dn.getD i false with
            | true => rfl
            | false =>
              rw [hdi] at g1
              simp only [Bool.not_false, Bool.true_and] at g1 ⊢
              exact g1
          rw [this]; rfl
        · rw [g2]
          have : (!(dn.getD i false) && commB (c.Gates.getD i dGate) (c.Gates.getD k.toNat dGate)) = true := by
            unfold commB
            cases hdi : dn.getD i false with
            | true => rw [hdi] at g1; simp at g1
            | false =>
              rw [hdi] at g1
              simp only [Bool.not_false, Bool.true_and] at g1 ⊢
              exact g1
          rw [this]; rfl)]
      cases (List.range k.toNat).any fun i => !(dn.getD i false) && commB (c.Gates.getD i dGate) (c.Gates.getD k.toNat dGate) <;> rfl
theorem ready_impl {c : TCircuit} {dn : List Bool} (hl : c.Gates.length ≤ 400) (hd : dn.length = c.Gates.length) (g : TCouplingGraph) (p : List Int) (k : Int) : F_impl_routing_isReady (Trouting.mk g c p dn) k = some (rdB c dn k) := by
  unfold F_impl_routing_isReady F_impl_within rdB
  simp only
  rw [wrap_i64 (a := (c.Gates.length : Int) - 1) ⟨by omega, by omega⟩]
  simp only [Option.bind_some]
  have er : (decide (0 ≤ k) && decide (k ≤ (c.Gates.length : Int) - 1)) = (decide (0 ≤ k) && decide (k < (c.Gates.length : Int))) := by
    rw [Bool.eq_iff_iff]; simp only [Bool.and_eq_true, decide_eq_true_eq]; omega
  rw [er]
  cases hr : decide (0 ≤ k) && decide (k < (c.Gates.length : Int)) with
  | false => simp only [Bool.not_false, Bool.not_true, gb, cond_false, Option.bind_some, Bool.true_or, cond_true, Bool.false_and]
  | true =>
    simp only [Bool.and_eq_true, decide_eq_true_eq] at hr
    simp only [Bool.not_true, Bool.not_false, gb, cond_true, Bool.false_or, Bool.true_and]
    rw [getI_gd false hr.1 (by omega)]
    simp only [Option.bind_some]
    cases hdk : dn.getD k.toNat false with
    | true => simp only [cond_true, Bool.not_true, Bool.false_and]
    | false =>
      simp only [cond_false, Bool.not_false, Bool.true_and]
      rw [chk_t ⟨by omega, by omega⟩, chk_t (by omega), range_any (p := fun i => !(dn.getD i false) && commB (c.Gates.getD i dGate) (c.Gates.getD k.toNat dGate)) (q := false) (fun i hi => by
        unfold F_impl_routing_isReady_l1
        simp only
        have h0 : getI (List.take k.toNat c.Gates) (i : Int) = some (c.Gates.getD i dGate) := by
          rw [getI_nat, List.getElem?_take_of_lt hi, List.getElem?_eq_getElem (by omega)]
          simp [List.getD, show i < c.Gates.length by omega]
        have h2 := getI_gd (l := dn) false (k := (i : Int)) (by omega) (by omega)
        rw [Int.toNat_natCast] at h2
        rw [h0, h2, getI_gd dGate hr.1 (by omega)]
        simp only [Option.bind_some, gb]
        cases hdi : dn.getD i false with
        | true => simp only [Bool.not_true, cond_false, Option.bind_some, Bool.false_and]
        | false => simp only [Bool.not_false, cond_true, Option.bind_some, meet_eq, Bool.true_and, bsR])]
      cases (List.range k.toNat).any fun i => !(dn.getD i false) && commB (c.Gates.getD i dGate) (c.Gates.getD k.toNat dGate) <;> rfl
def fitB (E : List TEdge) (p : List Int) (x : TGate) : Bool := !twoB x || joinsB E (p.getD x.A.toNat 0) (p.getD x.B.toNat 0)
def InP (p : List Int) (x : TGate) : Prop := twoB x = true → (0 ≤ x.A ∧ x.A < p.length) ∧ 0 ≤ x.B ∧ x.B < p.length
theorem near_spec {g : TCouplingGraph} (hl : g.Edges.length ≤ 1048576) {p : List Int} {x : TGate} (h : InP p x) : F_spec_l23Near g p x = some (fitB g.Edges p x) := by
  unfold F_spec_l23Near fitB
  rw [two_spec]
  simp only [Option.bind_some]
  cases ht : twoB x with
  | false => rfl
  | true =>
    obtain ⟨h1, h2⟩ := h ht
    simp only [Bool.not_true, Bool.not_false, gb, cond_true, Bool.false_or]
    rw [getI_gd 0 h1.1 h1.2, getI_gd 0 h2.1 h2.2]
    simp only [Option.bind_some, spec_joins hl]
theorem fits_impl {g : TCouplingGraph} (hl : g.Edges.length ≤ 1048576) (he : ∀ x ∈ g.Edges, eOk g.Nodes x = true) {c : TCircuit} {p : List Int} {dn : List Bool} {k : Int} (h0 : 0 ≤ k) (h1 : k < c.Gates.length) (h : InP p (c.Gates.getD k.toNat dGate)) : F_impl_routing_fits (Trouting.mk g c p dn) k = some (fitB g.Edges p (c.Gates.getD k.toNat dGate)) := by
  unfold F_impl_routing_fits fitB
  simp only
  rw [getI_gd dGate h0 h1]
  generalize c.Gates.getD k.toNat dGate = x at h
  simp only [Option.bind_some, two_impl]
  cases ht : twoB x with
  | false => rfl
  | true =>
    obtain ⟨h1, h2⟩ := h ht
    simp only [Bool.not_true, Bool.not_false, gb, cond_true, Bool.false_or]
    rw [getI_gd 0 h1.1 h1.2, getI_gd 0 h2.1 h2.2]
    simp only [Option.bind_some, impl_joins hl he]
def stp (E : List TEdge) (c : TCircuit) (s : List Int × List Bool) (x : TRouteStep) : Int × (List Int × List Bool) :=
  bif x.Gate == -1 then (bif joinsB E x.A x.B then (0, (swapL s.1 x.A x.B, s.2)) else (2, s))
  else bif ((x.A != 0) || (x.B != 0)) || !(rdB c s.2 x.Gate) then (3, s)
  else bif fitB E s.1 (c.Gates.getD x.Gate.toNat dGate) then (0, (s.1, s.2.set x.Gate.toNat true)) else (4, s)
structure RInv (g : TCouplingGraph) (c : TCircuit) (s : List Int × List Bool) : Prop where
  len : (s.1.length : Int) = c.Qubits
  dn : s.2.length = c.Gates.length
  pl : PlOk g.Nodes s.1
structure ROk (g : TCouplingGraph) (c : TCircuit) : Prop where
  edges : g.Edges.length ≤ 1048576
  nodes : 1 ≤ g.Nodes ∧ g.Nodes ≤ 8
  eok : ∀ x ∈ g.Edges, eOk g.Nodes x = true
  qs : 1 ≤ c.Qubits ∧ c.Qubits ≤ 5
  gl : c.Gates.length ≤ 400
  gok : ∀ x ∈ c.Gates, gOk c.Qubits x = true
theorem rd_range {c : TCircuit} {dn : List Bool} {k : Int} (h : rdB c dn k = true) : 0 ≤ k ∧ k < c.Gates.length ∧ dn.getD k.toNat false = false := by
  unfold rdB at h
  simp only [Bool.and_eq_true, decide_eq_true_eq, Bool.not_eq_true'] at h
  exact ⟨h.1.1, h.1.2, h.2.1⟩
theorem ROk.at {g : TCouplingGraph} {c : TCircuit} (h : ROk g c) {k : Int} (h0 : 0 ≤ k) (h1 : k < c.Gates.length) : gOk c.Qubits (c.Gates.getD k.toNat dGate) = true := by
  refine h.gok _ ?_
  have : k.toNat < c.Gates.length := by omega
  simp only [List.getD, List.getElem?_eq_getElem this, Option.getD_some]
  exact List.getElem_mem this
theorem inP_of {g : TCouplingGraph} {c : TCircuit} (h : ROk g c) {s : List Int × List Bool} (hs : RInv g c s) {k : Int} (h0 : 0 ≤ k) (h1 : k < c.Gates.length) : InP s.1 (c.Gates.getD k.toNat dGate) := by
  intro ht
  have hg := gOk_cases (h.at h0 h1)
  have := hs.len
  unfold twoB at ht
  simp only [Bool.and_eq_true, decide_eq_true_eq] at ht
  omega
theorem step_impl {g : TCouplingGraph} {c : TCircuit} (h : ROk g c) {s : List Int × List Bool} (hs : RInv g c s) (x : TRouteStep) : F_impl_routing_step (Trouting.mk g c s.1 s.2) x = some ((stp g.Edges c s x).1, (stp g.Edges c s x).2.1, (stp g.Edges c s x).2.2) := by
  have hp : s.1.length ≤ 1048576 := by have := hs.len; have := h.qs; omega
  unfold F_impl_routing_step stp
  simp only
  cases hg : x.Gate == -1 with
  | true =>
    simp only [cond_true]
    rw [impl_joins h.edges h.eok]
    simp only [Option.bind_some]
    cases joinsB g.Edges x.A x.B with
    | false => rfl
    | true => simp only [Bool.not_true, cond_false, swap_impl hp, Option.bind_some, cond_true]
  | false =>
    simp only [cond_false]
    rw [ready_impl h.gl hs.dn]
    cases hz : (x.A != 0) || (x.B != 0) with
    | true => rfl
    | false =>
      simp only [Bool.not_false, gb, cond_true, Option.bind_some, Bool.false_or]
      cases hr : rdB c s.2 x.Gate with
      | false => rfl
      | true =>
        obtain ⟨r0, r1, r2⟩ := rd_range hr
        simp only [Bool.not_true, cond_false]
        rw [fits_impl h.edges h.eok r0 r1 (inP_of h hs r0 r1)]
        simp only [Option.bind_some]
        cases fitB g.Edges s.1 (c.Gates.getD x.Gate.toNat dGate) with
        | false => rfl
        | true =>
          simp only [Bool.not_true, cond_false, cond_true]
          rw [getI_gd (l := s.2) false r0 (by rw [hs.dn]; exact r1)]
          rfl
theorem step_inv {g : TCouplingGraph} {c : TCircuit} (h : ROk g c) {s : List Int × List Bool} (hs : RInv g c s) (x : TRouteStep) : RInv g c (stp g.Edges c s x).2 := by
  unfold stp
  cases x.Gate == -1 with
  | true =>
    simp only [cond_true]
    cases hj : joinsB g.Edges x.A x.B with
    | false => exact hs
    | true =>
      obtain ⟨a, b, c', d, _⟩ := joins_in h.eok hj
      exact ⟨by simp only [cond_true, swapL, List.length_map]; exact hs.len, hs.dn, hs.pl.swap ⟨a, b⟩ ⟨c', d⟩⟩
  | false =>
    simp only [cond_false]
    cases ((x.A != 0) || (x.B != 0)) || !(rdB c s.2 x.Gate) with
    | true => exact hs
    | false =>
      simp only [cond_false]
      cases fitB g.Edges s.1 (c.Gates.getD x.Gate.toNat dGate) with
      | false => exact hs
      | true => exact ⟨hs.len, by simp only [cond_true, List.length_set]; exact hs.dn, hs.pl⟩
/-- How many gates are left. -/
def leftN : List Bool → Nat
  | [] => 0
  | b :: l => (bif b then 0 else 1) + leftN l
theorem left_set : ∀ (l : List Bool) (k : Nat), k < l.length → l.getD k false = false → leftN (l.set k true) + 1 = leftN l
  | [], _, h, _ => absurd h (Nat.not_lt_zero _)
  | b :: l, 0, _, h => by
    simp only [List.getD_cons_zero] at h
    subst h
    simp only [List.set_cons_zero, leftN, cond_true, cond_false]; omega
  | b :: l, k + 1, hk, h => by
    have := left_set l k (by simpa using hk) (by simpa using h)
    simp only [List.set_cons_succ, leftN]; omega
theorem left_le : ∀ l : List Bool, leftN l ≤ l.length
  | [] => Nat.le_refl _
  | b :: l => by
    have := left_le l
    simp only [leftN, List.length_cons]
    cases b <;> simp <;> omega
theorem left_all : ∀ l : List Bool, (l.any fun x => x == false) = decide (0 < leftN l)
  | [] => rfl
  | b :: l => by
    have := left_all l
    cases b
    · have h0 : 0 < leftN (false :: l) := by simp only [leftN, cond_false]; omega
      rw [decide_eq_true h0]; rfl
    · simp only [List.any_cons, leftN, cond_true, Nat.zero_add]; rw [this]; rfl
theorem left_rep (n : Nat) : leftN (List.replicate n false) = n := by
  induction n with
  | zero => rfl
  | succ n ih => rw [List.replicate_succ]; simp only [leftN, ih, cond_false]; omega
theorem contains_false {l : List Bool} (hl : l.length ≤ 9223372036854775807) : F_slices_Contains_bool_bool l false = some (decide (0 < leftN l)) := by
  unfold F_slices_Contains_bool_bool F_slices_Index_bool_bool
  rw [chk_t hl]
  rcases forX_any (f := F_slices_Index_bool_bool_l1 l false) (l := l) (p := fun x => x == false) (q := fun i => (i : Int)) (fun i x hx => by
    unfold F_slices_Index_bool_bool_l1
    simp only [getI_nat, hx, Option.bind_some]
    cases x <;> rfl) with ⟨h1, h2⟩ | ⟨h1, i, _, h2⟩
  · rw [h2, ← left_all, h1]; rfl
  · rw [h2, ← left_all, h1]; simp [orR]
theorem play_step {g : TCouplingGraph} {c : TCircuit} (h : ROk g c) {r : TRoute} {i : Nat} {x : TRouteStep} (hx : r.Steps[i]? = some x) {s : List Int × List Bool} (hs : RInv g c s) :
    F_spec_l23Play_l1 r g c i (s.1, s.2, ((leftN s.2 : Nat) : Int)) = some (bif (stp g.Edges c s x).1 != 0 then .rt ((stp g.Edges c s x).1, (i : Int), []) else .nx ((stp g.Edges c s x).2.1, (stp g.Edges c s x).2.2, ((leftN (stp g.Edges c s x).2.2 : Nat) : Int))) := by
  have hp : s.1.length ≤ 1048576 := by have := hs.len; have := h.qs; omega
  unfold F_spec_l23Play_l1 stp
  simp only [getI_nat, hx, Option.bind_some]
  cases hg : x.Gate == -1 with
  | true =>
    simp only [cond_true]
    rw [spec_joins h.edges]
    simp only [Option.bind_some]
    cases joinsB g.Edges x.A x.B with
    | false => rfl
    | true => simp only [Bool.not_true, cond_false, swap_spec hp, Option.bind_some, cond_true, orR]; rfl
  | false =>
    simp only [cond_false]
    rw [ready_spec h.gl hs.dn]
    cases hz : (x.A != 0) || (x.B != 0) with
    | true => rfl
    | false =>
      simp only [Bool.not_false, gb, cond_true, Option.bind_some, Bool.false_or]
      cases hr : rdB c s.2 x.Gate with
      | false => rfl
      | true =>
        obtain ⟨r0, r1, r2⟩ := rd_range hr
        simp only [Bool.not_true, cond_false]
        rw [getI_gd dGate r0 r1]
        simp only [Option.bind_some]
        rw [near_spec h.edges (inP_of h hs r0 r1)]
        simp only [Option.bind_some]
        cases fitB g.Edges s.1 (c.Gates.getD x.Gate.toNat dGate) with
        | false => rfl
        | true =>
          simp only [Bool.not_true, cond_false, cond_true]
          rw [getI_gd (l := s.2) false r0 (by rw [hs.dn]; exact r1)]
          have hle := left_le s.2
          have hd := hs.dn
          have hgl := h.gl
          have hset := left_set s.2 x.Gate.toNat (by omega) r2
          simp only [Option.bind_some, orR]
          rw [wrap_i64 ⟨by omega, by omega⟩]
          have : ((leftN s.2 : Nat) : Int) - 1 = ((leftN (s.2.set x.Gate.toNat true) : Nat) : Int) := by omega
          rw [this]; rfl
theorem check_step {g : TCouplingGraph} {c : TCircuit} (h : ROk g c) {r : TRoute} {i : Nat} {x : TRouteStep} (hx : r.Steps[i]? = some x) {s : List Int × List Bool} (hs : RInv g c s) (p0 : List Int) (d0 : List Bool) :
    F_impl_check_l1 r (Trouting.mk g c p0 d0) g i s = some (bif (stp g.Edges c s x).1 != 0 then .rt ((stp g.Edges c s x).1, (i : Int), Trouting.mk g c (stp g.Edges c s x).2.1 (stp g.Edges c s x).2.2) else .nx (stp g.Edges c s x).2) := by
  unfold F_impl_check_l1
  obtain ⟨s1, s2⟩ := s
  simp only [getI_nat, hx, Option.bind_some]
  rw [step_impl h hs x]
  simp only [Option.bind_some]
  cases (stp g.Edges c (s1, s2) x).1 != 0 <;> rfl
theorem play_both {g : TCouplingGraph} {c : TCircuit} (h : ROk g c) {r : TRoute} (h1 : r.Start.length ≤ 1048576) (h2 : r.Steps.length ≤ 1048576) :
    ∃ code at_ p rt, F_spec_l23Play g c r = some (code, at_, p) ∧ F_impl_check g c r = some (code, at_, rt) ∧ p.length ≤ 1048576 ∧ (code = 0 → rt.place = p ∧ RInv g c (r.Start, List.replicate c.Gates.length false) ∧
      ∃ e, forX (F_impl_check_l1 r (Trouting.mk g c r.Start (List.replicate c.Gates.length false)) g) r.Steps.length 0 (r.Start, List.replicate c.Gates.length false) = some (.inl e)) := by
  obtain ⟨b, b1, b2, b3⟩ := place_both h.nodes c.Qubits r.Start h1
  unfold F_spec_l23Play F_impl_check
  rw [b1, b2]
  simp only [Option.bind_some]
  cases b with
  | false => exact ⟨1, 0, [], _, rfl, rfl, by simp, fun h => absurd h (by decide)⟩
  | true =>
    obtain ⟨l1, l2⟩ := b3 rfl
    have hgl := h.gl
    have hs0 : RInv g c (r.Start, List.replicate c.Gates.length false) := ⟨l1, by simp, l2⟩
    unfold F_spec_l1Own F_impl_newRouting F_slices_Clone_int_int
    simp only [Bool.not_true, cond_false]
    rw [chk_t (by omega)]
    simp only [Option.bind_some]
    rw [chk_t ⟨by omega, by omega⟩, chk_t (by omega), chk_t ⟨by omega, by omega⟩]
    simp only [Option.bind_some]
    rw [chk_t (by omega)]
    have e0 : ((c.Gates.length : Nat) : Int) = ((leftN (List.replicate c.Gates.length false) : Nat) : Int) := by rw [left_rep]
    rcases forX2_inv (f := F_spec_l23Play_l1 r g c) (g := F_impl_check_l1 r (Trouting.mk g c r.Start (List.replicate c.Gates.length false)) g) (fun _ s t => s = (t.1, t.2, ((leftN t.2 : Nat) : Int)) ∧ RInv g c t) (fun q q' => q.1 = q'.1 ∧ q.2.1 = q'.2.1 ∧ q.1 ≠ 0 ∧ q.2.2 = []) r.Steps.length 0 (r.Start, List.replicate c.Gates.length false, (c.Gates.length : Int)) (r.Start, List.replicate c.Gates.length false) ⟨by rw [e0], hs0⟩ (fun i s t _ hi hI => by
      obtain ⟨rfl, ht⟩ := hI
      have hx := List.getElem?_eq_getElem (show i < r.Steps.length by omega)
      generalize r.Steps[i] = x at hx
      rw [play_step h hx ht, check_step h hx ht]
      cases hc : (stp g.Edges c t x).1 != 0 with
      | true => exact .inr ⟨_, _, rfl, rfl, rfl, rfl, by simpa using hc, rfl⟩
      | false => exact .inl ⟨_, _, rfl, rfl, rfl, step_inv h ht x⟩) with ⟨s, t, f1, f2, rfl, f4⟩ | ⟨q, q', f1, f2, f3, f4, f5, f6⟩
    · rw [f1, f2]
      simp only [Option.bind_some, orR]
      rw [contains_false (by rw [f4.dn]; omega)]
      simp only [Option.bind_some]
      have ed : decide ((0 : Int) < ((leftN t.2 : Nat) : Int)) = decide (0 < leftN t.2) := by
        rw [Bool.eq_iff_iff, decide_eq_true_eq, decide_eq_true_eq]; omega
      rw [ed]
      have hl := f4.len
      have hq := h.qs
      cases decide (0 < leftN t.2) with
      | true => exact ⟨5, _, [], _, rfl, rfl, by simp, fun h => absurd h (by decide)⟩
      | false => exact ⟨0, 0, t.1, _, rfl, rfl, by omega, fun _ => ⟨rfl, hs0, t, rfl⟩⟩
    · rw [f1, f2]
      simp only [Option.bind_some, orR]
      obtain ⟨c1, a1, p1⟩ := q
      obtain ⟨c2, a2, r2⟩ := q'
      simp only at f3 f4 f5 f6
      subst f3 f4 f6
      exact ⟨c1, a1, [], r2, rfl, rfl, by simp, fun h => absurd h f5⟩
theorem fits_both (g : TCouplingGraph) (c : TCircuit) (h1 : g.Edges.length ≤ 1048576) (h2 : c.Gates.length ≤ 1048576) : ∃ b, F_spec_l23Fits g c = some b ∧ F_impl_canRoute g c = some b ∧ (b = true → ROk g c ∧ c.Qubits ≤ g.Nodes) := by
  obtain ⟨b, b1, b2, b3⟩ := graph_both g h1
  unfold F_spec_l23Fits F_impl_canRoute
  rw [b1, b2]
  simp only [Option.bind_some]
  cases b with
  | false => exact ⟨false, rfl, rfl, fun h => by cases h⟩
  | true =>
    simp only [gb, cond_true, Bool.true_and]
    rw [spec_good, impl_good c h2]
    simp only [Option.bind_some]
    refine ⟨_, rfl, rfl, fun h => ?_⟩
    simp only [Bool.and_eq_true, decide_eq_true_eq] at h
    have hc := h.1
    unfold cOk at hc
    simp only [Bool.and_eq_true, decide_eq_true_eq] at hc
    obtain ⟨n1, n2⟩ := b3 rfl
    exact ⟨⟨h1, n1, n2, ⟨hc.1.1.1, hc.1.1.2⟩, hc.1.2, List.all_eq_true.1 hc.2⟩, h.2⟩
theorem wn_succ {k : Int} (h0 : 0 ≤ k) (h : k + 1 ≤ 9223372036854775807) : IntKind.i64.wrap (k + 1) = k + 1 := wrap_i64 ⟨by omega, by omega⟩
theorem to_EdgeS (a : List TEdge) (h : a.length ≤ 1099511627776) : F_laws_toEdgeS a = some a := by
  unfold F_laws_toEdgeS
  rw [chk_t (by omega), chk_t (by omega), forN_fill (a := a) (by simp) (fun i out x hx ho => ?_)]
  · rfl
  · have hi := (List.getElem?_eq_some_iff.1 hx).1
    unfold F_laws_toEdgeS_l1 F_laws_toEdge
    simp [getI_nat, hx, List.getElem?_eq_getElem (show i < out.length by omega)]
theorem sz_EdgeS (a : List TEdge) (left : Int) (h : 0 ≤ left ∧ left ≤ 1048576) (ha : a.length ≤ 9223372036854775807) :
    (∃ s, F_laws_szEdgeS a left = some s ∧ (0 ≤ s ∧ s ≤ 1048576) ∧ a.length ≤ 1048576) ∨ ∃ s, F_laws_szEdgeS a left = some s ∧ s < 0 := by
  unfold F_laws_szEdgeS
  rw [wrap_i64 (a := left - (a.length : Int)) ⟨by omega, by omega⟩]
  by_cases hs : left - (a.length : Int) < 0
  · rw [decide_eq_true hs]; exact .inr ⟨_, rfl, by decide⟩
  · rw [decide_eq_false hs]; exact .inl ⟨_, rfl, ⟨by omega, by omega⟩, by omega⟩
theorem eqr_EdgeS (a : List TEdge) (h : a.length ≤ 1099511627776) : F_laws_eqEdgeS a a = some true := by
  unfold F_laws_eqEdgeS
  simp only [bne_self_eq_false, cond_false]
  rw [chk_t (by omega), forX_pass (fun i hi => ?_)]
  · simp [orR]
  · unfold F_laws_eqEdgeS_l1 F_laws_eqEdge
    simp [getI_nat, List.getElem?_eq_getElem hi]
theorem mk_EdgeS (a : List TEdge) (k : Int) (h0 : 0 ≤ k) (h : k ≤ 1152921504606846976) (ha : a.length ≤ 1099511627776) : ∃ m, F_laws_markEdgeS a k = some (k + a.length * 2, m) := by
  obtain ⟨m, h1, hl, h2⟩ := mark_held (mk := fun (x : TEdge) k => TEdge.mk k (IntKind.i64.wrap (k + 1))) (nx := fun k => (IntKind.i64.wrap ((IntKind.i64.wrap (k + 1)) + 1)))
    (f := F_laws_markEdgeS_l1) (g := (fun (_ : List TEdge) (_ : Nat) k => some (Ex.nx (ρ := Int) (IntKind.i64.wrap ((IntKind.i64.wrap (k + 1)) + 1)))))
    (fun i m k x hx => by unfold F_laws_markEdgeS_l1; simp [getI_nat, hx]) (fun _ _ _ _ _ => rfl) a k
  have hn := iter_add (c := 2) (nx := fun k => (IntKind.i64.wrap ((IntKind.i64.wrap (k + 1)) + 1))) (by omega) (fun k hk hk' => by simp (disch := omega) only [wn_succ] <;> omega) a.length k h0 (by omega)
  exact ⟨m, by unfold F_laws_markEdgeS; rw [chk_t (by omega), h1, hn]; rfl⟩
theorem to_CouplingGraph (a : TCouplingGraph) (h0 : a.Edges.length ≤ 1099511627776) : F_laws_toCouplingGraph a = some a := by
  unfold F_laws_toCouplingGraph; simp only [to_EdgeS a.Edges h0, Option.bind_some]
theorem eqr_CouplingGraph (a : TCouplingGraph) (h0 : a.Edges.length ≤ 1099511627776) : F_laws_eqCouplingGraph a a = some true := by
  unfold F_laws_eqCouplingGraph; simp [eqr_EdgeS a.Edges h0]
theorem sz_CouplingGraph (a : TCouplingGraph) (left : Int) (h : 0 ≤ left ∧ left ≤ 1048576) (h0 : a.Edges.length ≤ 9223372036854775807) :
    (∃ s, F_laws_szCouplingGraph a left = some s ∧ (0 ≤ s ∧ s ≤ 1048576) ∧ a.Edges.length ≤ 1048576) ∨ ∃ s, F_laws_szCouplingGraph a left = some s ∧ s < 0 := by
  unfold F_laws_szCouplingGraph
  rcases sz_EdgeS a.Edges left h h0 with ⟨s0, e0, b0, t0_0⟩ | ⟨s0, e0, b0⟩
  rotate_left
  · exact .inr ⟨_, by rw [e0]; simp only [Option.bind_some, decide_eq_true b0, cond_true]; first | rfl | skip, by decide⟩
  rw [e0]
  simp only [Option.bind_some, decide_eq_false (show ¬ s0 < 0 by omega), cond_false]
  exact .inl ⟨_, rfl, b0, t0_0⟩
theorem mk_CouplingGraph (a : TCouplingGraph) (k : Int) (h0' : 0 ≤ k) (h : k ≤ 1125899906842624) (h0 : a.Edges.length ≤ 1099511627776) : ∃ m0, F_laws_markCouplingGraph a k = some (k + a.Edges.length * 2, m0) := by
  obtain ⟨m0, e0⟩ := mk_EdgeS a.Edges (k) (by omega) (by omega) h0
  refine ⟨m0, ?_⟩
  · unfold F_laws_markCouplingGraph; simp only [e0, Option.bind_some]
theorem to_GateS (a : List TGate) (h : a.length ≤ 1099511627776) : F_laws_toGateS a = some a := by
  unfold F_laws_toGateS
  rw [chk_t (by omega), chk_t (by omega), forN_fill (a := a) (by simp) (fun i out x hx ho => ?_)]
  · rfl
  · have hi := (List.getElem?_eq_some_iff.1 hx).1
    unfold F_laws_toGateS_l1 F_laws_toGate
    simp [getI_nat, hx, List.getElem?_eq_getElem (show i < out.length by omega)]
theorem sz_GateS (a : List TGate) (left : Int) (h : 0 ≤ left ∧ left ≤ 1048576) (ha : a.length ≤ 9223372036854775807) :
    (∃ s, F_laws_szGateS a left = some s ∧ (0 ≤ s ∧ s ≤ 1048576) ∧ a.length ≤ 1048576) ∨ ∃ s, F_laws_szGateS a left = some s ∧ s < 0 := by
  unfold F_laws_szGateS
  rw [wrap_i64 (a := left - (a.length : Int)) ⟨by omega, by omega⟩]
  by_cases hs : left - (a.length : Int) < 0
  · rw [decide_eq_true hs]; exact .inr ⟨_, rfl, by decide⟩
  · rw [decide_eq_false hs]; exact .inl ⟨_, rfl, ⟨by omega, by omega⟩, by omega⟩
theorem eqr_GateS (a : List TGate) (h : a.length ≤ 1099511627776) : F_laws_eqGateS a a = some true := by
  unfold F_laws_eqGateS
  simp only [bne_self_eq_false, cond_false]
  rw [chk_t (by omega), forX_pass (fun i hi => ?_)]
  · simp [orR]
  · unfold F_laws_eqGateS_l1 F_laws_eqGate
    simp [getI_nat, List.getElem?_eq_getElem hi]
theorem mk_GateS (a : List TGate) (k : Int) (h0 : 0 ≤ k) (h : k ≤ 1152921504606846976) (ha : a.length ≤ 1099511627776) : ∃ m, F_laws_markGateS a k = some (k + a.length * 3, m) ∧ F_laws_heldGateS m k = some (k + a.length * 3) := by
  obtain ⟨m, h1, hl, h2⟩ := mark_held (mk := fun (x : TGate) k => TGate.mk k (IntKind.i64.wrap (k + 1)) (IntKind.i64.wrap ((IntKind.i64.wrap (k + 1)) + 1))) (nx := fun k => (IntKind.i64.wrap ((IntKind.i64.wrap ((IntKind.i64.wrap (k + 1)) + 1)) + 1)))
    (f := F_laws_markGateS_l1) (g := F_laws_heldGateS_l1)
    (fun i m k x hx => by unfold F_laws_markGateS_l1; simp [getI_nat, hx]) (fun m i k x hx => by unfold F_laws_heldGateS_l1; simp [getI_nat, hx]) a k
  have hn := iter_add (c := 3) (nx := fun k => (IntKind.i64.wrap ((IntKind.i64.wrap ((IntKind.i64.wrap (k + 1)) + 1)) + 1))) (by omega) (fun k hk hk' => by simp (disch := omega) only [wn_succ] <;> omega) a.length k h0 (by omega)
  refine ⟨m, ?_, ?_⟩
  · unfold F_laws_markGateS; rw [chk_t (by omega), h1, hn]; rfl
  · unfold F_laws_heldGateS; rw [chk_t (by omega), h2, hn]; rfl
theorem to_Circuit (a : TCircuit) (h0 : a.Gates.length ≤ 1099511627776) : F_laws_toCircuit a = some a := by
  unfold F_laws_toCircuit; simp only [to_GateS a.Gates h0, Option.bind_some]
theorem eqr_Circuit (a : TCircuit) (h0 : a.Gates.length ≤ 1099511627776) : F_laws_eqCircuit a a = some true := by
  unfold F_laws_eqCircuit; simp [eqr_GateS a.Gates h0]
theorem sz_Circuit (a : TCircuit) (left : Int) (h : 0 ≤ left ∧ left ≤ 1048576) (h0 : a.Gates.length ≤ 9223372036854775807) :
    (∃ s, F_laws_szCircuit a left = some s ∧ (0 ≤ s ∧ s ≤ 1048576) ∧ a.Gates.length ≤ 1048576) ∨ ∃ s, F_laws_szCircuit a left = some s ∧ s < 0 := by
  unfold F_laws_szCircuit
  rcases sz_GateS a.Gates left h h0 with ⟨s0, e0, b0, t0_0⟩ | ⟨s0, e0, b0⟩
  rotate_left
  · exact .inr ⟨_, by rw [e0]; simp only [Option.bind_some, decide_eq_true b0, cond_true]; first | rfl | skip, by decide⟩
  rw [e0]
  simp only [Option.bind_some, decide_eq_false (show ¬ s0 < 0 by omega), cond_false]
  exact .inl ⟨_, rfl, b0, t0_0⟩
theorem mk_Circuit (a : TCircuit) (k : Int) (h0' : 0 ≤ k) (h : k ≤ 1125899906842624) (h0 : a.Gates.length ≤ 1099511627776) : ∃ m0, F_laws_markCircuit a k = some (k + a.Gates.length * 3, m0) ∧ F_laws_heldCircuit (TCircuit.mk a.Qubits m0) k = some (k + a.Gates.length * 3) := by
  obtain ⟨m0, e0, g0⟩ := mk_GateS a.Gates (k) (by omega) (by omega) h0
  refine ⟨m0, ?_, ?_⟩
  · unfold F_laws_markCircuit; simp only [e0, Option.bind_some]
  · unfold F_laws_heldCircuit; simp only
    rw [g0]; simp only [Option.bind_some]
    rw [show decide (k + (a.Gates.length : Int) * 3 < 0) = false from decide_eq_false (by omega)]; simp only [cond_false]
theorem to_IntS (a : List Int) (h : a.length ≤ 1099511627776) : F_laws_toIntS a = some a := by
  unfold F_laws_toIntS
  rw [chk_t (by omega), chk_t (by omega), forN_fill (a := a) (by simp) (fun i out x hx ho => ?_)]
  · rfl
  · have hi := (List.getElem?_eq_some_iff.1 hx).1
    unfold F_laws_toIntS_l1
    simp [getI_nat, hx, List.getElem?_eq_getElem (show i < out.length by omega)]
theorem sz_IntS (a : List Int) (left : Int) (h : 0 ≤ left ∧ left ≤ 1048576) (ha : a.length ≤ 9223372036854775807) :
    (∃ s, F_laws_szIntS a left = some s ∧ (0 ≤ s ∧ s ≤ 1048576) ∧ a.length ≤ 1048576) ∨ ∃ s, F_laws_szIntS a left = some s ∧ s < 0 := by
  unfold F_laws_szIntS
  rw [wrap_i64 (a := left - (a.length : Int)) ⟨by omega, by omega⟩]
  by_cases hs : left - (a.length : Int) < 0
  · rw [decide_eq_true hs]; exact .inr ⟨_, rfl, by decide⟩
  · rw [decide_eq_false hs]; exact .inl ⟨_, rfl, ⟨by omega, by omega⟩, by omega⟩
theorem eqr_IntS (a : List Int) (h : a.length ≤ 1099511627776) : F_laws_eqIntS a a = some true := by
  unfold F_laws_eqIntS
  simp only [bne_self_eq_false, cond_false]
  rw [chk_t (by omega), forX_pass (fun i hi => ?_)]
  · simp [orR]
  · unfold F_laws_eqIntS_l1
    simp [getI_nat, List.getElem?_eq_getElem hi]
theorem mk_IntS (a : List Int) (k : Int) (h0 : 0 ≤ k) (h : k ≤ 1152921504606846976) (ha : a.length ≤ 1099511627776) : ∃ m, F_laws_markIntS a k = some (k + a.length * 1, m) := by
  obtain ⟨m, h1, hl, h2⟩ := mark_held (mk := fun (x : Int) k => k) (nx := fun k => (IntKind.i64.wrap (k + 1)))
    (f := F_laws_markIntS_l1) (g := (fun (_ : List Int) (_ : Nat) k => some (Ex.nx (ρ := Int) (IntKind.i64.wrap (k + 1)))))
    (fun i m k x hx => by unfold F_laws_markIntS_l1; simp [getI_nat, hx]) (fun _ _ _ _ _ => rfl) a k
  have hn := iter_add (c := 1) (nx := fun k => (IntKind.i64.wrap (k + 1))) (by omega) (fun k hk hk' => by simp (disch := omega) only [wn_succ] <;> omega) a.length k h0 (by omega)
  exact ⟨m, by unfold F_laws_markIntS; rw [chk_t (by omega), h1, hn]; rfl⟩
theorem to_RouteStepS (a : List TRouteStep) (h : a.length ≤ 1099511627776) : F_laws_toRouteStepS a = some a := by
  unfold F_laws_toRouteStepS
  rw [chk_t (by omega), chk_t (by omega), forN_fill (a := a) (by simp) (fun i out x hx ho => ?_)]
  · rfl
  · have hi := (List.getElem?_eq_some_iff.1 hx).1
    unfold F_laws_toRouteStepS_l1 F_laws_toRouteStep
    simp [getI_nat, hx, List.getElem?_eq_getElem (show i < out.length by omega)]
theorem sz_RouteStepS (a : List TRouteStep) (left : Int) (h : 0 ≤ left ∧ left ≤ 1048576) (ha : a.length ≤ 9223372036854775807) :
    (∃ s, F_laws_szRouteStepS a left = some s ∧ (0 ≤ s ∧ s ≤ 1048576) ∧ a.length ≤ 1048576) ∨ ∃ s, F_laws_szRouteStepS a left = some s ∧ s < 0 := by
  unfold F_laws_szRouteStepS
  rw [wrap_i64 (a := left - (a.length : Int)) ⟨by omega, by omega⟩]
  by_cases hs : left - (a.length : Int) < 0
  · rw [decide_eq_true hs]; exact .inr ⟨_, rfl, by decide⟩
  · rw [decide_eq_false hs]; exact .inl ⟨_, rfl, ⟨by omega, by omega⟩, by omega⟩
theorem eqr_RouteStepS (a : List TRouteStep) (h : a.length ≤ 1099511627776) : F_laws_eqRouteStepS a a = some true := by
  unfold F_laws_eqRouteStepS
  simp only [bne_self_eq_false, cond_false]
  rw [chk_t (by omega), forX_pass (fun i hi => ?_)]
  · simp [orR]
  · unfold F_laws_eqRouteStepS_l1 F_laws_eqRouteStep
    simp [getI_nat, List.getElem?_eq_getElem hi]
theorem mk_RouteStepS (a : List TRouteStep) (k : Int) (h0 : 0 ≤ k) (h : k ≤ 1152921504606846976) (ha : a.length ≤ 1099511627776) : ∃ m, F_laws_markRouteStepS a k = some (k + a.length * 3, m) := by
  obtain ⟨m, h1, hl, h2⟩ := mark_held (mk := fun (x : TRouteStep) k => TRouteStep.mk k (IntKind.i64.wrap (k + 1)) (IntKind.i64.wrap ((IntKind.i64.wrap (k + 1)) + 1))) (nx := fun k => (IntKind.i64.wrap ((IntKind.i64.wrap ((IntKind.i64.wrap (k + 1)) + 1)) + 1)))
    (f := F_laws_markRouteStepS_l1) (g := (fun (_ : List TRouteStep) (_ : Nat) k => some (Ex.nx (ρ := Int) (IntKind.i64.wrap ((IntKind.i64.wrap ((IntKind.i64.wrap (k + 1)) + 1)) + 1)))))
    (fun i m k x hx => by unfold F_laws_markRouteStepS_l1; simp [getI_nat, hx]) (fun _ _ _ _ _ => rfl) a k
  have hn := iter_add (c := 3) (nx := fun k => (IntKind.i64.wrap ((IntKind.i64.wrap ((IntKind.i64.wrap (k + 1)) + 1)) + 1))) (by omega) (fun k hk hk' => by simp (disch := omega) only [wn_succ] <;> omega) a.length k h0 (by omega)
  exact ⟨m, by unfold F_laws_markRouteStepS; rw [chk_t (by omega), h1, hn]; rfl⟩
theorem to_Route (a : TRoute) (h0 : a.Start.length ≤ 1099511627776) (h1 : a.Steps.length ≤ 1099511627776) : F_laws_toRoute a = some a := by
  unfold F_laws_toRoute; simp only [to_IntS a.Start h0, to_RouteStepS a.Steps h1, Option.bind_some]
theorem eqr_Route (a : TRoute) (h0 : a.Start.length ≤ 1099511627776) (h1 : a.Steps.length ≤ 1099511627776) : F_laws_eqRoute a a = some true := by
  unfold F_laws_eqRoute; simp [eqr_IntS a.Start h0, eqr_RouteStepS a.Steps h1]
theorem sz_Route (a : TRoute) (left : Int) (h : 0 ≤ left ∧ left ≤ 1048576) (h0 : a.Start.length ≤ 9223372036854775807) (h1 : a.Steps.length ≤ 9223372036854775807) :
    (∃ s, F_laws_szRoute a left = some s ∧ (0 ≤ s ∧ s ≤ 1048576) ∧ a.Start.length ≤ 1048576 ∧ a.Steps.length ≤ 1048576) ∨ ∃ s, F_laws_szRoute a left = some s ∧ s < 0 := by
  unfold F_laws_szRoute
  rcases sz_IntS a.Start left h h0 with ⟨s0, e0, b0, t0_0⟩ | ⟨s0, e0, b0⟩
  rotate_left
  · exact .inr ⟨_, by rw [e0]; simp only [Option.bind_some, decide_eq_true b0, cond_true]; first | rfl | skip, by decide⟩
  rw [e0]
  simp only [Option.bind_some, decide_eq_false (show ¬ s0 < 0 by omega), cond_false]
  rcases sz_RouteStepS a.Steps s0 b0 h1 with ⟨s1, e1, b1, t1_0⟩ | ⟨s1, e1, b1⟩
  rotate_left
  · exact .inr ⟨_, by rw [e1]; simp only [Option.bind_some, decide_eq_true b1, cond_true]; first | rfl | skip, by decide⟩
  rw [e1]
  simp only [Option.bind_some, decide_eq_false (show ¬ s1 < 0 by omega), cond_false]
  exact .inl ⟨_, rfl, b1, t0_0, t1_0⟩
theorem mk_Route (a : TRoute) (k : Int) (h0' : 0 ≤ k) (h : k ≤ 1125899906842624) (h0 : a.Start.length ≤ 1099511627776) (h1 : a.Steps.length ≤ 1099511627776) : ∃ m0 m1, F_laws_markRoute a k = some (k + a.Start.length * 1 + a.Steps.length * 3, m0, m1) := by
  obtain ⟨m0, e0⟩ := mk_IntS a.Start (k) (by omega) (by omega) h0
  obtain ⟨m1, e1⟩ := mk_RouteStepS a.Steps (k + a.Start.length * 1) (by omega) (by omega) h1
  refine ⟨m0, m1, ?_⟩
  · unfold F_laws_markRoute; simp only [e0, e1, Option.bind_some]
/-- The law, where the two answer alike. -/
theorem law_of (a0 : TCouplingGraph) (a1 : TCircuit) (a2 : TRoute) (ok0 : ok_CouplingGraph a0) (ok1 : ok_Circuit a1) (ok2 : ok_Route a2) (hb : a0.Edges.length ≤ 1048576 → a1.Gates.length ≤ 1048576 → a2.Start.length ≤ 1048576 → a2.Steps.length ≤ 1048576 → ∃ (r0 : TCircuit) (r1 : Bool), F_spec_RouteCircuit a0 a1 a2 = some (r0, r1) ∧ F_impl_RouteCircuit a0 a1 a2 = some (r0, r1) ∧ r0.Gates.length ≤ 1099511627776) : F_laws_FnExactRouteCircuit a0 a1 a2 = some true := by
  unfold F_laws_FnExactRouteCircuit
  rcases sz_CouplingGraph a0 1048576 ⟨by decide, by decide⟩ ok0.2.1 with ⟨s0, e0, b0, t0_0⟩ | ⟨s0, e0, b0⟩
  rotate_left
  · simp only [e0, Option.bind_some, decide_eq_true b0, cond_true]
  rcases sz_Circuit a1 s0 b0 ok1.2.1 with ⟨s1, e1, b1, t1_0⟩ | ⟨s1, e1, b1⟩
  rotate_left
  · simp only [e0, decide_eq_false (show ¬ s0 < 0 by omega), cond_false, Option.bind_some, e1, Option.bind_some, decide_eq_true b1, cond_true]
  rcases sz_Route a2 s1 b1 ok2.1.1 ok2.2.1 with ⟨s2, e2, b2, t2_0, t2_1⟩ | ⟨s2, e2, b2⟩
  rotate_left
  · simp only [e0, decide_eq_false (show ¬ s0 < 0 by omega), cond_false, Option.bind_some, e1, decide_eq_false (show ¬ s1 < 0 by omega), e2, Option.bind_some, decide_eq_true b2, cond_true]
  obtain ⟨r0, r1, hs, hi, m0⟩ := hb t0_0 t1_0 t2_0 t2_1
  obtain ⟨ka0, ma0_0, fa0, ga0⟩ : ∃ k' ma0_0, F_laws_markCouplingGraph a0 (1) = some (k', ma0_0) ∧ 0 ≤ k' ∧ k' ≤ 1 + 35184372088832 := by
    obtain ⟨ma0_0, e⟩ := mk_CouplingGraph a0 (1) (by omega) (by omega) (by omega)
    exact ⟨_, ma0_0, e, by omega, by omega⟩
  obtain ⟨ka1, ma1_0, fa1, ga1⟩ : ∃ k' ma1_0, F_laws_markCircuit a1 (ka0) = some (k', ma1_0) ∧ 0 ≤ k' ∧ k' ≤ ka0 + 35184372088832 := by
    obtain ⟨ma1_0, e, _⟩ := mk_Circuit a1 (ka0) (by omega) (by omega) (by omega)
    exact ⟨_, ma1_0, e, by omega, by omega⟩
  obtain ⟨ka2, ma2_0, ma2_1, fa2, ga2⟩ : ∃ k' ma2_0 ma2_1, F_laws_markRoute a2 (ka1) = some (k', ma2_0, ma2_1) ∧ 0 ≤ k' ∧ k' ≤ ka1 + 35184372088832 := by
    obtain ⟨ma2_0, ma2_1, e⟩ := mk_Route a2 (ka1) (by omega) (by omega) (by omega) (by omega)
    exact ⟨_, ma2_0, ma2_1, e, by omega, by omega⟩
  obtain ⟨kr0, mr0_0, fr0, gr0, hr0⟩ : ∃ k' mr0_0, F_laws_markCircuit r0 (1) = some (k', mr0_0) ∧ F_laws_heldCircuit (TCircuit.mk r0.Qubits mr0_0) (1) = some k' ∧ (0 ≤ k' ∧ k' ≤ 1 + 35184372088832) := by
    obtain ⟨mr0_0, e, g⟩ := mk_Circuit r0 (1) (by omega) (by omega) m0
    exact ⟨_, mr0_0, e, g, by omega, by omega⟩
  simp only [e0, decide_eq_false (show ¬ s0 < 0 by omega), cond_false, Option.bind_some, e1, decide_eq_false (show ¬ s1 < 0 by omega), e2, decide_eq_false (show ¬ s2 < 0 by omega), to_CouplingGraph a0 (by omega), eqr_CouplingGraph a0 (by omega), fa0, decide_eq_false (show ¬ ka0 < 0 by omega), to_Circuit a1 (by omega), eqr_Circuit a1 (by omega), fa1, decide_eq_false (show ¬ ka1 < 0 by omega), to_Route a2 (by omega) (by omega), eqr_Route a2 (by omega) (by omega), fa2, decide_eq_false (show ¬ ka2 < 0 by omega), hs, hi, eqr_Circuit r0 m0, fr0, gr0, decide_eq_false (show ¬ kr0 < 0 by omega), cond_true, gb, Bool.not_true, Bool.not_false, Bool.or_false, Bool.false_or, Bool.or_self, beq_self_eq_true, bne_self_eq_false]
def mapG (p : List Int) (y : TGate) : TGate := TGate.mk y.Kind (bif y.Kind != 12 then p.getD y.A.toNat 0 else y.A) (bif twoB y then p.getD y.B.toNat 0 else y.B)
theorem gd_mem {p : List Int} {k : Int} (h0 : 0 ≤ k) (h1 : k < p.length) : p.getD k.toNat 0 ∈ p := by
  have : k.toNat < p.length := by omega
  simp only [List.getD, List.getElem?_eq_getElem this, Option.getD_some]
  exact List.getElem_mem this
theorem gd_ne {N : Int} {p : List Int} (hp : PlOk N p) {a b : Int} (ha : 0 ≤ a ∧ a < p.length) (hb : 0 ≤ b ∧ b < p.length) (hab : a ≠ b) : p.getD a.toNat 0 ≠ p.getD b.toNat 0 := by
  have h1 : a.toNat < p.length := by omega
  have h2 : b.toNat < p.length := by omega
  simp only [List.getD, List.getElem?_eq_getElem h1, List.getElem?_eq_getElem h2, Option.getD_some]
  have := List.pairwise_iff_getElem.1 hp.2
  rcases Nat.lt_or_gt_of_ne (show a.toNat ≠ b.toNat by omega) with h | h
  · exact this _ _ h1 h2 h
  · exact fun e => this _ _ h2 h1 h e.symm
theorem mapG_ok {g : TCouplingGraph} {c : TCircuit} (h : ROk g c) {s : List Int × List Bool} (hs : RInv g c s) {y : TGate} (hy : gOk c.Qubits y = true) : gOk g.Nodes (mapG s.1 y) = true := by
  have hl := hs.len
  have hr := hs.pl.1
  unfold gOk at hy
  unfold gOk mapG
  simp only
  by_cases h1 : 1 ≤ y.Kind ∧ y.Kind ≤ 8
  · have e : (decide (1 ≤ y.Kind) && decide (y.Kind ≤ 8)) = true := by simp [h1]
    have e2 : twoB y = false := by unfold twoB; rw [Bool.and_eq_false_iff, decide_eq_false_iff_not]; left; omega
    have e3 : (y.Kind != 12) = true := by simp; omega
    rw [e, cond_true] at hy
    rw [e, cond_true, e2, e3, cond_true, cond_false]
    simp only [Bool.and_eq_true, decide_eq_true_eq, beq_iff_eq] at hy ⊢
    have := hr _ (gd_mem (p := s.1) (k := y.A) hy.1.1 (by omega))
    exact ⟨⟨by omega, by omega⟩, hy.2⟩
  · have e : (decide (1 ≤ y.Kind) && decide (y.Kind ≤ 8)) = false := by rw [Bool.and_eq_false_iff, decide_eq_false_iff_not, decide_eq_false_iff_not]; omega
    rw [e, cond_false] at hy
    rw [e, cond_false]
    by_cases h2 : 9 ≤ y.Kind ∧ y.Kind ≤ 11
    · have e1 : (decide (9 ≤ y.Kind) && decide (y.Kind ≤ 11)) = true := by simp [h2]
      have e2 : twoB y = true := e1
      have e3 : (y.Kind != 12) = true := by simp; omega
      rw [e1, cond_true] at hy
      rw [e1, cond_true, e2, e3, cond_true, cond_true]
      simp only [Bool.and_eq_true, decide_eq_true_eq, bne_iff_ne] at hy ⊢
      have ra := hr _ (gd_mem (p := s.1) (k := y.A) hy.1.1.1 (by omega))
      have rb := hr _ (gd_mem (p := s.1) (k := y.B) hy.1.2.1 (by omega))
      exact ⟨⟨⟨by omega, by omega⟩, by omega, by omega⟩, gd_ne hs.pl ⟨hy.1.1.1, by omega⟩ ⟨hy.1.2.1, by omega⟩ hy.2⟩
    · have e1 : (decide (9 ≤ y.Kind) && decide (y.Kind ≤ 11)) = false := by rw [Bool.and_eq_false_iff, decide_eq_false_iff_not, decide_eq_false_iff_not]; omega
      have e2 : twoB y = false := e1
      rw [e1, cond_false] at hy
      have h12 := hy
      simp only [Bool.and_eq_true, beq_iff_eq] at h12
      have e3 : (y.Kind != 12) = false := by simp [h12.1.1]
      rw [e1, cond_false, e2, e3, cond_false, cond_false]
      exact hy
theorem drop_one {l : List TGate} {k : Nat} (hk : k < l.length) : List.drop k (List.take (k + 1) l) = [l.getD k dGate] := by
  rw [List.take_add_one, List.getElem?_eq_getElem hk]
  have hl : (List.take k l).length = k := by rw [List.length_take]; omega
  have := List.drop_append_of_le_length (l₁ := List.take k l) (l₂ := (some l[k]).toList) (i := k) (by omega)
  rw [this, List.drop_of_length_le (by omega)]
  simp [List.getD, List.getElem?_eq_getElem hk]
theorem mapped_one {g : TCouplingGraph} {c : TCircuit} {s : List Int × List Bool} (hs : RInv g c s) {y : TGate} (hy : gOk c.Qubits y = true) : F_impl_mapped [y] s.1 = some [mapG s.1 y] ∧ (∀ (α : Type) (k : Int → Option α), ((F_spec_l22Two y).bind fun r => bif r then (getI s.1 y.B).bind fun x => k x else k y.B) = k (mapG s.1 y).B) ∧ (∀ (α : Type) (k : Int → Option α), (bif (y.Kind != 12) then ((getI s.1 y.A).bind fun x => k x) else k y.A) = k (mapG s.1 y).A) := by
  have hl := hs.len
  have hc := gOk_cases hy
  have hA : ∀ (α : Type) (k : Int → Option α), (bif (y.Kind != 12) then ((getI s.1 y.A).bind fun x => k x) else k y.A) = k (mapG s.1 y).A := fun α k => by
    unfold mapG
    simp only
    cases h12 : y.Kind != 12 with
    | false => rfl
    | true =>
      have : y.Kind ≠ 12 := by simpa using h12
      simp only [cond_true]
      rw [getI_gd 0 (show 0 ≤ y.A by omega) (by omega)]
      rfl
  have hB : ∀ (α : Type) (k : Int → Option α), (bif twoB y then (getI s.1 y.B).bind fun x => k x else k y.B) = k (mapG s.1 y).B := fun α k => by
    unfold mapG
    simp only
    cases ht : twoB y with
    | false => rfl
    | true =>
      have ht2 := ht
      unfold twoB at ht2
      simp only [Bool.and_eq_true, decide_eq_true_eq] at ht2
      simp only [cond_true]
      rw [getI_gd 0 (show 0 ≤ y.B by omega) (by omega)]
      rfl
  refine ⟨?_, fun α k => by rw [two_spec]; exact hB α k, hA⟩
  unfold F_impl_mapped
  rw [chk_t (by simp)]
  have : F_impl_mapped_l1 [y] s.1 0 [] = some [mapG s.1 y] := by
    unfold F_impl_mapped_l1
    rw [show getI [y] ((0 : Nat) : Int) = some y from rfl]
    simp only [Option.bind_some, two_impl]
    rw [hA Int (fun x => some x), hB Int (fun x => some x)]
    simp only [Option.bind_some]
    rw [chk_t (by simp)]
    rfl
  show ((forN (F_impl_mapped_l1 [y] s.1) 1 0 []).bind fun out => some out) = _
  simp only [forN, this, Option.bind_some]
theorem run_both {g : TCouplingGraph} {c : TCircuit} (h : ROk g c) (h5 : g.Nodes ≤ 5) {r : TRoute} (h2 : r.Steps.length ≤ 1048576) (p0 : List Int) (d0 : List Bool) : ∀ (k i : Nat) (s e : List Int × List Bool) (out : List TGate), i + k = r.Steps.length → RInv g c s →
    forX (F_impl_check_l1 r (Trouting.mk g c p0 d0) g) k i s = some (.inl e) → out.length = i → (∀ z ∈ out, gOk g.Nodes z = true) →
    ∃ out', forN (F_spec_RouteCircuit_l1 r c) k i (out, s.1) = some (out', e.1) ∧ forN (F_impl_RouteCircuit_l1 r c (Trouting.mk g c p0 d0) g) k i (s.1, s.2, out) = some (e.1, e.2, out') ∧ out'.length = i + k ∧ ∀ z ∈ out', gOk g.Nodes z = true
  | 0, i, s, e, out, _, _, he, ho, hv => by
    have he := Option.some.inj he
    cases he
    exact ⟨out, rfl, rfl, ho, hv⟩
  | k + 1, i, s, e, out, hi, hs, he, ho, hv => by
    have hx := List.getElem?_eq_getElem (show i < r.Steps.length by omega)
    generalize r.Steps[i] = x at hx
    have hc := check_step h hx hs p0 d0
    have hp : s.1.length ≤ 1048576 := by have := hs.len; have := h.qs; omega
    obtain ⟨y, hy1, hy2⟩ := forX_go he
    rw [hc] at hy1
    cases hcode : (stp g.Edges c s x).1 != 0 with
    | true =>
      rw [hcode, cond_true] at hy1
      cases hy1
      cases hy2
    | false =>
      rw [hcode, cond_false] at hy1
      cases hy1
      have hcode0 : (stp g.Edges c s x).1 = 0 := by simpa using hcode
      obtain ⟨z, hz, zs, zi⟩ : ∃ z, gOk g.Nodes z = true ∧ F_spec_RouteCircuit_l1 r c i (out, s.1) = some (out ++ [z], (stp g.Edges c s x).2.1) ∧ F_impl_RouteCircuit_l1 r c (Trouting.mk g c p0 d0) g i (s.1, s.2, out) = some ((stp g.Edges c s x).2.1, (stp g.Edges c s x).2.2, out ++ [z]) := by
        have hst := step_impl h hs x
        cases hg : x.Gate == -1 with
        | true =>
          have e1 : stp g.Edges c s x = (bif joinsB g.Edges x.A x.B then (0, (swapL s.1 x.A x.B, s.2)) else (2, s)) := by unfold stp; rw [hg]; rfl
          rw [e1] at hcode0
          cases hj : joinsB g.Edges x.A x.B with
          | false => rw [hj] at hcode0; simp at hcode0
          | true =>
            rw [hj, cond_true] at e1
            obtain ⟨j1, j2, j3, j4, j5⟩ := joins_in h.eok hj
            refine ⟨TGate.mk 11 x.A x.B, ?_, ?_, ?_⟩
            · unfold gOk
              simp only [show (decide ((1 : Int) ≤ 11) && decide ((11 : Int) ≤ 8)) = false from rfl, show (decide ((9 : Int) ≤ 11) && decide ((11 : Int) ≤ 11)) = true from rfl, cond_false, cond_true, Bool.and_eq_true, decide_eq_true_eq, bne_iff_ne]
              exact ⟨⟨⟨j1, by omega⟩, j3, by omega⟩, j5⟩
            · unfold F_spec_RouteCircuit_l1
              simp only [getI_nat, hx, Option.bind_some, hg, cond_true]
              rw [chk_t (by omega), swap_spec hp]
              simp only [Option.bind_some]
              rw [e1]
            · unfold F_impl_RouteCircuit_l1
              simp only [getI_nat, hx, Option.bind_some, hg, cond_true]
              rw [chk_t (by omega)]
              simp only [Option.bind_some]
              rw [hst]
              rfl
        | false =>
          have e1 : stp g.Edges c s x = (bif ((x.A != 0) || (x.B != 0)) || !(rdB c s.2 x.Gate) then (3, s) else bif fitB g.Edges s.1 (c.Gates.getD x.Gate.toNat dGate) then (0, (s.1, s.2.set x.Gate.toNat true)) else (4, s)) := by unfold stp; rw [hg]; rfl
          rw [e1] at hcode0
          cases hr : ((x.A != 0) || (x.B != 0)) || !(rdB c s.2 x.Gate) with
          | true => rw [hr] at hcode0; simp at hcode0
          | false =>
            rw [hr, cond_false] at hcode0 e1
            cases hf : fitB g.Edges s.1 (c.Gates.getD x.Gate.toNat dGate) with
            | false => rw [hf] at hcode0; simp at hcode0
            | true =>
              rw [hf, cond_true] at e1
              simp only [Bool.or_eq_false_iff, Bool.not_eq_false'] at hr
              obtain ⟨r0, r1, _⟩ := rd_range hr.2
              have hyk := h.at r0 r1
              obtain ⟨m1, m2, m3⟩ := mapped_one hs hyk
              refine ⟨mapG s.1 (c.Gates.getD x.Gate.toNat dGate), mapG_ok h hs hyk, ?_, ?_⟩
              · unfold F_spec_RouteCircuit_l1
                simp only [getI_nat, hx, Option.bind_some, hg, cond_false]
                rw [getI_gd dGate r0 r1]
                simp only [Option.bind_some]
                rw [m2 Int (fun x => some x), m3 Int (fun x => some x)]
                simp only [Option.bind_some]
                rw [chk_t (by omega), e1]
                rfl
              · have hgl := h.gl
                have hw : IntKind.i64.wrap (x.Gate + 1) = x.Gate + 1 := wrap_i64 ⟨by omega, by omega⟩
                unfold F_impl_RouteCircuit_l1
                simp only [getI_nat, hx, Option.bind_some, hg, cond_false]
                rw [hw, chk_t ⟨by omega, by omega, by omega⟩, show (x.Gate + 1).toNat = x.Gate.toNat + 1 by omega, drop_one (by omega), m1]
                simp only [Option.bind_some]
                rw [chk_t (by simp; omega)]
                simp only [Option.bind_some]
                rw [hst]
                rfl
      obtain ⟨out', f1, f2, f3, f4⟩ := run_both h h5 h2 p0 d0 k (i + 1) _ e (out ++ [z]) (by omega) (step_inv h hs x) hy2 (by simp; omega) (fun w hw => by
        rcases List.mem_append.1 hw with hw | hw
        · exact hv w hw
        · rw [List.mem_singleton] at hw; subst hw; exact hz)
      refine ⟨out', ?_, ?_, by omega, f4⟩
      · simp only [forN, zs, Option.bind_some]; exact f1
      · simp only [forN, zi, Option.bind_some]; exact f2
theorem law_FnExactRouteCircuit (a0 : TCouplingGraph) (a1 : TCircuit) (a2 : TRoute) (ok0 : ok_CouplingGraph a0) (ok1 : ok_Circuit a1) (ok2 : ok_Route a2) : F_laws_FnExactRouteCircuit a0 a1 a2 = some true := by
  refine law_of a0 a1 a2 ok0 ok1 ok2 (fun h0 h1 h2 h3 => ?_)
  obtain ⟨b, b1, b2, b3⟩ := fits_both a0 a1 h0 h1
  unfold F_spec_RouteCircuit F_impl_RouteCircuit F_impl_CheckRoute
  rw [b1, b2]
  simp only [Option.bind_some]
  cases b with
  | false => exact ⟨_, _, rfl, rfl, by simp⟩
  | true =>
    have h := (b3 rfl).1
    obtain ⟨code, at_, p, rt, p1, p2, p3, p4⟩ := play_both h h2 h3
    rw [p1, p2]
    simp only [Option.bind_some, Bool.not_true, cond_false, Bool.false_or]
    cases h5 : decide (5 < a0.Nodes) with
    | true =>
      simp only [Bool.true_or, Bool.or_true, cond_true]
      exact ⟨_, _, rfl, rfl, by simp⟩
    | false =>
      have h5' := of_decide_eq_false h5
      simp only [Bool.false_or, Bool.or_false]
      cases hc : code != 0 with
      | true =>
        simp only [cond_true]
        cases decide ((400 : Int) < (a2.Steps.length : Int)) with
        | true => exact ⟨_, _, rfl, rfl, by simp⟩
        | false => exact ⟨_, _, rfl, rfl, by simp⟩
      | false =>
        have hc0 : code = 0 := by simpa using hc
        obtain ⟨_, q1, e, q2⟩ := p4 hc0
        obtain ⟨out, o1, o2, o3, o4⟩ := run_both h (by omega) h3 a2.Start (List.replicate a1.Gates.length false) a2.Steps.length 0 _ e [] (by omega) q1 q2 rfl (fun z hz => by cases hz)
        have hgl := h.gl
        unfold F_impl_newRouting F_slices_Clone_int_int
        rw [chk_t (by omega), chk_t (by omega)]
        simp only [Option.bind_some, cond_false]
        rw [chk_t ⟨by omega, by omega⟩]
        simp only [Option.bind_some]
        rw [chk_t (by omega)]
        simp only at o1 o2
        rw [o1, o2]
        simp only [Option.bind_some]
        unfold F_impl_circuitIf
        rw [chk_t (by omega), impl_good _ (by simp only; omega)]
        have hok : cOk (TCircuit.mk a0.Nodes out) = !decide ((400 : Int) < (a2.Steps.length : Int)) := by
          unfold cOk
          have hn := h.nodes
          have e1 : out.all (gOk a0.Nodes) = true := List.all_eq_true.2 o4
          simp only [e1, Bool.and_true]
          rw [Bool.eq_iff_iff]
          simp only [Bool.and_eq_true, decide_eq_true_eq, Bool.not_eq_true', decide_eq_false_iff_not]
          omega
        rw [hok]
        simp only [Option.bind_some, Bool.not_not]
        cases decide ((400 : Int) < (a2.Steps.length : Int)) with
        | true => exact ⟨_, _, rfl, rfl, by simp⟩
        | false => exact ⟨_, _, rfl, rfl, by simp only; omega⟩
end Go.VK
