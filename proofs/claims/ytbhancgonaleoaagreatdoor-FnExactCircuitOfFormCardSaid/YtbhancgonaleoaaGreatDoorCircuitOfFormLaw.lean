/- The plain law of FnExactCircuitOfForm: what its Lean function answers, for all arguments. -/
import Derived.Test.YtbhancgonaleoaaGreatDoorCircuitOfFormFn
import Derived.Test.YtbhancgonaleoaaGreatDoorLibI
set_option maxRecDepth 10000
set_option maxHeartbeats 1000000
set_option linter.unusedSimpArgs false
set_option linter.unusedVariables false
namespace Go.VK
/-- A gate that is taken, over n wires. -/
def gOk (n : Int) (g : TGate) : Bool :=
  bif decide (1 ≤ g.Kind) && decide (g.Kind ≤ 8) then decide (0 ≤ g.A) && decide (g.A ≤ n - 1) && (g.B == 0)
  else bif decide (9 ≤ g.Kind) && decide (g.Kind ≤ 11) then decide (0 ≤ g.A) && decide (g.A ≤ n - 1) && (decide (0 ≤ g.B) && decide (g.B ≤ n - 1)) && (g.A != g.B)
  else (g.Kind == 12) && (g.A == 0) && (g.B == 0)
theorem impl_gate {n : Int} (hn : 1 ≤ n ∧ n ≤ 5) (g : TGate) : F_impl_IsValidGate n g = some (gOk n g) := by
  unfold F_impl_IsValidGate F_impl_isTwo F_impl_within gOk
  rw [wrap_i64 (a := n - 1) ⟨by omega, by omega⟩]
  have h1 : decide (1 ≤ n) = true := decide_eq_true hn.1
  have h5 : decide (n ≤ 5) = true := decide_eq_true hn.2
  simp only [Option.bind_some, gb, h1, h5, Bool.and_self, Bool.not_true, Bool.not_false, cond_true, Bool.false_or]
  by_cases hk : 1 ≤ g.Kind ∧ g.Kind ≤ 12
  · have e1 : (decide (1 ≤ g.Kind) && decide (g.Kind ≤ 12)) = true := by simp [hk]
    simp only [e1, Bool.not_true, cond_false]
    by_cases h12 : g.Kind = 12
    · simp [h12]
    · have e12 : (g.Kind == 12) = false := by simp [h12]
      simp only [e12, cond_false]
      by_cases h9 : 9 ≤ g.Kind
      · have a1 : (decide (9 ≤ g.Kind) && decide (g.Kind ≤ 11)) = true := by simp; omega
        have a2 : (decide (1 ≤ g.Kind) && decide (g.Kind ≤ 8)) = false := by simp; omega
        simp only [a1, a2, cond_true, cond_false]
        cases decide (0 ≤ g.A) && decide (g.A ≤ n - 1) <;> simp
      · have a1 : (decide (9 ≤ g.Kind) && decide (g.Kind ≤ 11)) = false := by simp; omega
        have a2 : (decide (1 ≤ g.Kind) && decide (g.Kind ≤ 8)) = true := by simp; omega
        simp only [a1, a2, cond_true, cond_false]
  · have e1 : (decide (1 ≤ g.Kind) && decide (g.Kind ≤ 12)) = false := by simp; omega
    have a1 : (decide (9 ≤ g.Kind) && decide (g.Kind ≤ 11)) = false := by simp; omega
    have a2 : (decide (1 ≤ g.Kind) && decide (g.Kind ≤ 8)) = false := by simp; omega
    have a3 : (g.Kind == 12) = false := by simp; omega
    simp [e1, a1, a2, a3]
/-- A circuit that is taken. -/
def cOk (c : TCircuit) : Bool := decide (1 ≤ c.Qubits) && decide (c.Qubits ≤ 5) && decide (c.Gates.length ≤ 400) && c.Gates.all (gOk c.Qubits)
theorem impl_good (c : TCircuit) (hlen : c.Gates.length ≤ 1048576) : F_impl_IsValidCircuit c = some (cOk c) := by
  unfold F_impl_IsValidCircuit F_impl_within cOk
  simp only [Option.bind_some]
  by_cases hn : 1 ≤ c.Qubits ∧ c.Qubits ≤ 5
  · by_cases hl : c.Gates.length ≤ 400
    · have e : (decide (1 ≤ c.Qubits) && decide (c.Qubits ≤ 5) && decide ((c.Gates.length : Int) ≤ 400)) = true := by simp [hn]; omega
      rw [e]
      have hf : ∀ i x, c.Gates[i]? = some x → F_slices_IndexFunc_impl_Gate_impl_Gate_l1 c.Gates (fun x_0 => F_impl_IsValidCircuit_1 x_0 c) i () = some (bif !gOk c.Qubits x then .rt (i : Int) else .nx ()) := fun i x hx => by
        unfold F_slices_IndexFunc_impl_Gate_impl_Gate_l1 F_impl_IsValidCircuit_1
        simp only [getI_nat, hx, Option.bind_some, impl_gate hn]
        cases gOk c.Qubits x <;> rfl
      unfold F_slices_ContainsFunc_impl_Gate_impl_Gate F_slices_IndexFunc_impl_Gate_impl_Gate
      rw [chk_t (by omega)]
      rcases forX_any hf with ⟨h1, h2⟩ | ⟨h1, i, _, h2⟩
      · rw [h2]
        have : c.Gates.all (gOk c.Qubits) = true := by rw [List.all_eq_true]; intro x hx; have := List.any_eq_false.1 h1 x hx; simpa using this
        simp [orR, hn, hl, this, gb]
      · rw [h2]
        have : c.Gates.all (gOk c.Qubits) = false := by
          obtain ⟨x, hx, hp⟩ := List.any_eq_true.1 h1
          rw [List.all_eq_false]; exact ⟨x, hx, by simpa using hp⟩
        simp [orR, this, gb]
    · have e : (decide (1 ≤ c.Qubits) && decide (c.Qubits ≤ 5) && decide ((c.Gates.length : Int) ≤ 400)) = false := by simp; omega
      rw [e]
      simp [gb, hl]
  · have this : (decide (1 ≤ c.Qubits) && decide (c.Qubits ≤ 5)) = false := by simp; omega
    simp [gb, this]
def cB (b : Bool) : Tl2C := Tl2C.mk b
/-- The specification's step f, from whatever flag, ends in the number o, the flag as it was; or, if there is none, in some number and the flag set. -/
def SP {α : Type} (f : Tl2C → Option (α × Tl2C)) (G : α → Prop) (o : Option α) : Prop :=
  ∀ b, ∃ z b', f (cB b) = some (z, cB b') ∧ G z ∧ ((o = some z ∧ b' = b) ∨ (o = none ∧ b' = true))
theorem SP.bind {α β : Type} {f : Tl2C → Option (α × Tl2C)} {G : α → Prop} {o : Option α} (hf : SP f G o) {h : α → Tl2C → Option (β × Tl2C)} {G' : β → Prop} {o' : α → Option β}
    (hh : ∀ z, G z → SP (h z) G' (o' z)) : SP (fun c => (f c).bind fun p => h p.1 p.2) G' (o.bind o') := fun b => by
  obtain ⟨z, b', h1, h2, h3⟩ := hf b
  obtain ⟨z', b'', h4, h5, h6⟩ := hh z h2 b'
  refine ⟨z', b'', by simp only [h1, Option.bind_some]; exact h4, h5, ?_⟩
  rcases h3 with ⟨rfl, rfl⟩ | ⟨rfl, rfl⟩
  · simpa using h6
  · rcases h6 with ⟨_, h6⟩ | ⟨_, h6⟩
    · exact .inr ⟨rfl, h6⟩
    · exact .inr ⟨rfl, h6⟩
theorem SP.pure {α : Type} {G : α → Prop} {z : α} (h : G z) : SP (fun c => some (z, c)) G (some z) := fun b => ⟨z, b, rfl, h, .inl ⟨rfl, rfl⟩⟩
theorem SP.map {α β : Type} {f : Tl2C → Option (α × Tl2C)} {G : α → Prop} {o : Option α} (hf : SP f G o) {g : α → β} {G' : β → Prop} (hg : ∀ z, G z → G' (g z)) : SP (fun c => (f c).bind fun p => some (g p.1, p.2)) G' (o.map g) := by
  have := hf.bind (h := fun z c => some (g z, c)) (o' := fun z => some (g z)) (fun z hz => SP.pure (hg z hz))
  rwa [Option.map_eq_bind]
def dI (n : Int) : TDyadic := TDyadic.mk (TRing.mk n 0 0 0) 0
def wordsL : List (List UInt8) := [[], [72], [83], [72, 83], [83, 72], [83, 83], [72, 83, 72], [72, 83, 83], [83, 72, 83], [83, 83, 72], [83, 83, 83], [72, 83, 72, 83], [72, 83, 83, 72], [72, 83, 83, 83], [83, 72, 83, 83], [83, 83, 72, 83], [72, 83, 72, 83, 83], [72, 83, 83, 72, 83], [83, 72, 83, 83, 72], [83, 72, 83, 83, 83], [83, 83, 72, 83, 83], [72, 83, 72, 83, 83, 72], [72, 83, 72, 83, 83, 83], [72, 83, 83, 72, 83, 83]]
def listL : List (List TDyadic) := [[dI 1, dI 0, dI 0, dI 0, dI 1, dI 0, dI 0, dI 0, dI 1], [dI 0, dI 0, dI 1, dI 0, dI (-1), dI 0, dI 1, dI 0, dI 0], [dI 0, dI (-1), dI 0, dI 1, dI 0, dI 0, dI 0, dI 0, dI 1], [dI 0, dI 1, dI 0, dI 0, dI 0, dI 1, dI 1, dI 0, dI 0], [dI 0, dI 0, dI 1, dI (-1), dI 0, dI 0, dI 0, dI (-1), dI 0], [dI (-1), dI 0, dI 0, dI 0, dI (-1), dI 0, dI 0, dI 0, dI 1], [dI 1, dI 0, dI 0, dI 0, dI 0, dI (-1), dI 0, dI 1, dI 0], [dI 0, dI 0, dI (-1), dI 0, dI 1, dI 0, dI 1, dI 0, dI 0], [dI 1, dI 0, dI 0, dI 0, dI 0, dI 1, dI 0, dI (-1), dI 0], [dI 0, dI 0, dI 1, dI 0, dI 1, dI 0, dI (-1), dI 0, dI 0], [dI 0, dI 1, dI 0, dI (-1), dI 0, dI 0, dI 0, dI 0, dI 1], [dI 0, dI 0, dI 1, dI 1, dI 0, dI 0, dI 0, dI 1, dI 0], [dI 1, dI 0, dI 0, dI 0, dI (-1), dI 0, dI 0, dI 0, dI (-1)], [dI 0, dI (-1), dI 0, dI 0, dI 0, dI (-1), dI 1, dI 0, dI 0], [dI 0, dI 0, dI (-1), dI 1, dI 0, dI 0, dI 0, dI (-1), dI 0], [dI 0, dI (-1), dI 0, dI 0, dI 0, dI 1, dI (-1), dI 0, dI 0], [dI (-1), dI 0, dI 0, dI 0, dI 0, dI 1, dI 0, dI 1, dI 0], [dI 0, dI 1, dI 0, dI 1, dI 0, dI 0, dI 0, dI 0, dI (-1)], [dI 0, dI (-1), dI 0, dI (-1), dI 0, dI 0, dI 0, dI 0, dI (-1)], [dI (-1), dI 0, dI 0, dI 0, dI 0, dI (-1), dI 0, dI (-1), dI 0], [dI 0, dI 0, dI (-1), dI 0, dI (-1), dI 0, dI (-1), dI 0, dI 0], [dI 0, dI 1, dI 0, dI 0, dI 0, dI (-1), dI (-1), dI 0, dI 0], [dI 0, dI 0, dI (-1), dI (-1), dI 0, dI 0, dI 0, dI 1, dI 0], [dI (-1), dI 0, dI 0, dI 0, dI 1, dI 0, dI 0, dI 0, dI (-1)]]
def hB : TBloch := TBloch.mk [dI 0, dI 0, dI 1, dI 0, dI (-1), dI 0, dI 1, dI 0, dI 0]
def sB : TBloch := TBloch.mk [dI 0, dI (-1), dI 0, dI 1, dI 0, dI 0, dI 0, dI 0, dI 1]
theorem gate_h : F_impl_blochGate 1 = some hB := by decide +kernel
theorem gate_s : F_impl_blochGate 5 = some sB := by decide +kernel
theorem whX_nx {σ ρ : Type} {f : σ → Option (Ex σ ρ)} {k : Nat} {s s' : σ} (h : f s = some (.nx s')) : whX f (k + 1) s = whX f k s' := by simp only [whX, h, Option.bind_some]
theorem whX_br {σ ρ : Type} {f : σ → Option (Ex σ ρ)} {k : Nat} {s s' : σ} (h : f s = some (.br s')) : whX f (k + 1) s = some (.inl s') := by simp only [whX, h, Option.bind_some]
theorem cl_of {k k' : Int} {W W' : List (List UInt8)} {L L' : List (List TDyadic)} (h : forN (F_impl_cliffordList_l3 hB sB k) 2 0 (W, L) = some (W', L')) (hk : decide (k < (W.length : Int)) = true) (hw : IntKind.i64.wrap (k + 1) = k') : F_impl_cliffordList_l2 hB sB (W, L, k) = some (.nx (W', L', k')) := by
  unfold F_impl_cliffordList_l2
  simp only [hk, cond_true, h, Option.bind_some, hw]
theorem cf_0 : forN (F_impl_cliffordList_l3 hB sB 0) 2 0 (wordsL.take 1, listL.take 1) = some (wordsL.take 3, listL.take 3) := by decide +kernel
theorem cl_0 : F_impl_cliffordList_l2 hB sB (wordsL.take 1, listL.take 1, 0) = some (.nx (wordsL.take 3, listL.take 3, 1)) := cl_of cf_0 rfl rfl
theorem cf_1 : forN (F_impl_cliffordList_l3 hB sB 1) 2 0 (wordsL.take 3, listL.take 3) = some (wordsL.take 4, listL.take 4) := by decide +kernel
theorem cl_1 : F_impl_cliffordList_l2 hB sB (wordsL.take 3, listL.take 3, 1) = some (.nx (wordsL.take 4, listL.take 4, 2)) := cl_of cf_1 rfl rfl
theorem cf_2 : forN (F_impl_cliffordList_l3 hB sB 2) 2 0 (wordsL.take 4, listL.take 4) = some (wordsL.take 6, listL.take 6) := by decide +kernel
theorem cl_2 : F_impl_cliffordList_l2 hB sB (wordsL.take 4, listL.take 4, 2) = some (.nx (wordsL.take 6, listL.take 6, 3)) := cl_of cf_2 rfl rfl
theorem cf_3 : forN (F_impl_cliffordList_l3 hB sB 3) 2 0 (wordsL.take 6, listL.take 6) = some (wordsL.take 8, listL.take 8) := by decide +kernel
theorem cl_3 : F_impl_cliffordList_l2 hB sB (wordsL.take 6, listL.take 6, 3) = some (.nx (wordsL.take 8, listL.take 8, 4)) := cl_of cf_3 rfl rfl
theorem cf_4 : forN (F_impl_cliffordList_l3 hB sB 4) 2 0 (wordsL.take 8, listL.take 8) = some (wordsL.take 9, listL.take 9) := by decide +kernel
theorem cl_4 : F_impl_cliffordList_l2 hB sB (wordsL.take 8, listL.take 8, 4) = some (.nx (wordsL.take 9, listL.take 9, 5)) := cl_of cf_4 rfl rfl
theorem cf_5 : forN (F_impl_cliffordList_l3 hB sB 5) 2 0 (wordsL.take 9, listL.take 9) = some (wordsL.take 11, listL.take 11) := by decide +kernel
theorem cl_5 : F_impl_cliffordList_l2 hB sB (wordsL.take 9, listL.take 9, 5) = some (.nx (wordsL.take 11, listL.take 11, 6)) := cl_of cf_5 rfl rfl
theorem cf_6 : forN (F_impl_cliffordList_l3 hB sB 6) 2 0 (wordsL.take 11, listL.take 11) = some (wordsL.take 12, listL.take 12) := by decide +kernel
theorem cl_6 : F_impl_cliffordList_l2 hB sB (wordsL.take 11, listL.take 11, 6) = some (.nx (wordsL.take 12, listL.take 12, 7)) := cl_of cf_6 rfl rfl
theorem cf_7 : forN (F_impl_cliffordList_l3 hB sB 7) 2 0 (wordsL.take 12, listL.take 12) = some (wordsL.take 14, listL.take 14) := by decide +kernel
theorem cl_7 : F_impl_cliffordList_l2 hB sB (wordsL.take 12, listL.take 12, 7) = some (.nx (wordsL.take 14, listL.take 14, 8)) := cl_of cf_7 rfl rfl
theorem cf_8 : forN (F_impl_cliffordList_l3 hB sB 8) 2 0 (wordsL.take 14, listL.take 14) = some (wordsL.take 15, listL.take 15) := by decide +kernel
theorem cl_8 : F_impl_cliffordList_l2 hB sB (wordsL.take 14, listL.take 14, 8) = some (.nx (wordsL.take 15, listL.take 15, 9)) := cl_of cf_8 rfl rfl
theorem cf_9 : forN (F_impl_cliffordList_l3 hB sB 9) 2 0 (wordsL.take 15, listL.take 15) = some (wordsL.take 16, listL.take 16) := by decide +kernel
theorem cl_9 : F_impl_cliffordList_l2 hB sB (wordsL.take 15, listL.take 15, 9) = some (.nx (wordsL.take 16, listL.take 16, 10)) := cl_of cf_9 rfl rfl
theorem cf_10 : forN (F_impl_cliffordList_l3 hB sB 10) 2 0 (wordsL.take 16, listL.take 16) = some (wordsL.take 16, listL.take 16) := by decide +kernel
theorem cl_10 : F_impl_cliffordList_l2 hB sB (wordsL.take 16, listL.take 16, 10) = some (.nx (wordsL.take 16, listL.take 16, 11)) := cl_of cf_10 rfl rfl
theorem cf_11 : forN (F_impl_cliffordList_l3 hB sB 11) 2 0 (wordsL.take 16, listL.take 16) = some (wordsL.take 17, listL.take 17) := by decide +kernel
theorem cl_11 : F_impl_cliffordList_l2 hB sB (wordsL.take 16, listL.take 16, 11) = some (.nx (wordsL.take 17, listL.take 17, 12)) := cl_of cf_11 rfl rfl
theorem cf_12 : forN (F_impl_cliffordList_l3 hB sB 12) 2 0 (wordsL.take 17, listL.take 17) = some (wordsL.take 18, listL.take 18) := by decide +kernel
theorem cl_12 : F_impl_cliffordList_l2 hB sB (wordsL.take 17, listL.take 17, 12) = some (.nx (wordsL.take 18, listL.take 18, 13)) := cl_of cf_12 rfl rfl
theorem cf_13 : forN (F_impl_cliffordList_l3 hB sB 13) 2 0 (wordsL.take 18, listL.take 18) = some (wordsL.take 18, listL.take 18) := by decide +kernel
theorem cl_13 : F_impl_cliffordList_l2 hB sB (wordsL.take 18, listL.take 18, 13) = some (.nx (wordsL.take 18, listL.take 18, 14)) := cl_of cf_13 rfl rfl
theorem cf_14 : forN (F_impl_cliffordList_l3 hB sB 14) 2 0 (wordsL.take 18, listL.take 18) = some (wordsL.take 20, listL.take 20) := by decide +kernel
theorem cl_14 : F_impl_cliffordList_l2 hB sB (wordsL.take 18, listL.take 18, 14) = some (.nx (wordsL.take 20, listL.take 20, 15)) := cl_of cf_14 rfl rfl
theorem cf_15 : forN (F_impl_cliffordList_l3 hB sB 15) 2 0 (wordsL.take 20, listL.take 20) = some (wordsL.take 21, listL.take 21) := by decide +kernel
theorem cl_15 : F_impl_cliffordList_l2 hB sB (wordsL.take 20, listL.take 20, 15) = some (.nx (wordsL.take 21, listL.take 21, 16)) := cl_of cf_15 rfl rfl
theorem cf_16 : forN (F_impl_cliffordList_l3 hB sB 16) 2 0 (wordsL.take 21, listL.take 21) = some (wordsL.take 23, listL.take 23) := by decide +kernel
theorem cl_16 : F_impl_cliffordList_l2 hB sB (wordsL.take 21, listL.take 21, 16) = some (.nx (wordsL.take 23, listL.take 23, 17)) := cl_of cf_16 rfl rfl
theorem cf_17 : forN (F_impl_cliffordList_l3 hB sB 17) 2 0 (wordsL.take 23, listL.take 23) = some (wordsL.take 24, listL.take 24) := by decide +kernel
theorem cl_17 : F_impl_cliffordList_l2 hB sB (wordsL.take 23, listL.take 23, 17) = some (.nx (wordsL.take 24, listL.take 24, 18)) := cl_of cf_17 rfl rfl
theorem cf_18 : forN (F_impl_cliffordList_l3 hB sB 18) 2 0 (wordsL.take 24, listL.take 24) = some (wordsL.take 24, listL.take 24) := by decide +kernel
theorem cl_18 : F_impl_cliffordList_l2 hB sB (wordsL.take 24, listL.take 24, 18) = some (.nx (wordsL.take 24, listL.take 24, 19)) := cl_of cf_18 rfl rfl
theorem cf_19 : forN (F_impl_cliffordList_l3 hB sB 19) 2 0 (wordsL.take 24, listL.take 24) = some (wordsL.take 24, listL.take 24) := by decide +kernel
theorem cl_19 : F_impl_cliffordList_l2 hB sB (wordsL.take 24, listL.take 24, 19) = some (.nx (wordsL.take 24, listL.take 24, 20)) := cl_of cf_19 rfl rfl
theorem cf_20 : forN (F_impl_cliffordList_l3 hB sB 20) 2 0 (wordsL.take 24, listL.take 24) = some (wordsL.take 24, listL.take 24) := by decide +kernel
theorem cl_20 : F_impl_cliffordList_l2 hB sB (wordsL.take 24, listL.take 24, 20) = some (.nx (wordsL.take 24, listL.take 24, 21)) := cl_of cf_20 rfl rfl
theorem cf_21 : forN (F_impl_cliffordList_l3 hB sB 21) 2 0 (wordsL.take 24, listL.take 24) = some (wordsL.take 24, listL.take 24) := by decide +kernel
theorem cl_21 : F_impl_cliffordList_l2 hB sB (wordsL.take 24, listL.take 24, 21) = some (.nx (wordsL.take 24, listL.take 24, 22)) := cl_of cf_21 rfl rfl
theorem cf_22 : forN (F_impl_cliffordList_l3 hB sB 22) 2 0 (wordsL.take 24, listL.take 24) = some (wordsL.take 24, listL.take 24) := by decide +kernel
theorem cl_22 : F_impl_cliffordList_l2 hB sB (wordsL.take 24, listL.take 24, 22) = some (.nx (wordsL.take 24, listL.take 24, 23)) := cl_of cf_22 rfl rfl
theorem cf_23 : forN (F_impl_cliffordList_l3 hB sB 23) 2 0 (wordsL.take 24, listL.take 24) = some (wordsL.take 24, listL.take 24) := by decide +kernel
theorem cl_23 : F_impl_cliffordList_l2 hB sB (wordsL.take 24, listL.take 24, 23) = some (.nx (wordsL.take 24, listL.take 24, 24)) := cl_of cf_23 rfl rfl
theorem cl_24 : F_impl_cliffordList_l2 hB sB (wordsL.take 24, listL.take 24, 24) = some (.br (wordsL, listL, 24)) := rfl
theorem cl_loop (n : Nat) : whX (F_impl_cliffordList_l2 hB sB) (n + 25) (wordsL.take 1, listL.take 1, 0) = some (.inl (wordsL, listL, 24)) := by
  rw [whX_nx cl_0, whX_nx cl_1, whX_nx cl_2, whX_nx cl_3, whX_nx cl_4, whX_nx cl_5, whX_nx cl_6, whX_nx cl_7, whX_nx cl_8, whX_nx cl_9, whX_nx cl_10, whX_nx cl_11, whX_nx cl_12, whX_nx cl_13, whX_nx cl_14, whX_nx cl_15, whX_nx cl_16, whX_nx cl_17, whX_nx cl_18, whX_nx cl_19, whX_nx cl_20, whX_nx cl_21, whX_nx cl_22, whX_nx cl_23]
  exact whX_br cl_24
theorem cl_one : forN F_impl_cliffordList_l1 9 0 [] = some [dI 1, dI 0, dI 0, dI 0, dI 1, dI 0, dI 0, dI 0, dI 1] := by decide +kernel
theorem list_impl : F_impl_cliffordList = some (wordsL, listL) := by
  unfold F_impl_cliffordList
  rw [cl_one, gate_h, gate_s]
  simp only [Option.bind_some]
  have := cl_loop (fuel - 25)
  rw [show fuel - 25 + 25 = fuel from rfl] at this
  rw [show (([[]] : List (List UInt8)), ([[dI 1, dI 0, dI 0, dI 0, dI 1, dI 0, dI 0, dI 0, dI 1]] : List (List TDyadic)), (0 : Int)) = (wordsL.take 1, listL.take 1, 0) from rfl, this]
  rfl
theorem forN_st {σ : Type} {f : Nat → σ → Option σ} {k i : Nat} {s s' : σ} (h : f i s = some s') : forN f (k + 1) i s = forN f k (i + 1) s' := by simp only [forN, h, Option.bind_some]
def seenL (n : Nat) : List TBloch := (listL.take n).map TBloch.mk
theorem ll_of {W W' Nx lv : List (List UInt8)} {S S' : List TBloch} {n : Nat} (h : forN (F_spec_l9Words_l2 lv) n 0 (W, S, []) = some (W', S', Nx)) (hn : lv.length = n) (hw : decide ((W.length : Int) < 24) = true) (hl : lv.length ≤ 9223372036854775807) : F_spec_l9Words_l1 (W, S, lv) = some (.nx (W', S', Nx)) := by
  unfold F_spec_l9Words_l1
  simp only [hw, cond_true]
  rw [chk_t hl, hn, h]
  rfl
def lev_0 : List (List UInt8) := ([[]] : List (List UInt8))
def lev_1 : List (List UInt8) := ([[72], [83]] : List (List UInt8))
theorem ls_0_0 : F_spec_l9Words_l2 lev_0 0 (wordsL.take 0, seenL 0, []) = some (wordsL.take 1, seenL 1, (lev_1.take 2)) := by decide +kernel
theorem lf_0 : forN (F_spec_l9Words_l2 lev_0) 1 0 (wordsL.take 0, seenL 0, []) = some (wordsL.take 1, seenL 1, (lev_1.take 2)) := (forN_st ls_0_0).trans (rfl)
theorem ll_0 : F_spec_l9Words_l1 (wordsL.take 0, seenL 0, lev_0) = some (.nx (wordsL.take 1, seenL 1, lev_1)) := ll_of lf_0 rfl rfl (by decide)
def lev_2 : List (List UInt8) := ([[72, 72], [72, 83], [83, 72], [83, 83]] : List (List UInt8))
theorem ls_1_0 : F_spec_l9Words_l2 lev_1 0 (wordsL.take 1, seenL 1, []) = some (wordsL.take 2, seenL 2, (lev_2.take 2)) := by decide +kernel
theorem ls_1_1 : F_spec_l9Words_l2 lev_1 1 (wordsL.take 2, seenL 2, (lev_2.take 2)) = some (wordsL.take 3, seenL 3, (lev_2.take 4)) := by decide +kernel
theorem lf_1 : forN (F_spec_l9Words_l2 lev_1) 2 0 (wordsL.take 1, seenL 1, []) = some (wordsL.take 3, seenL 3, (lev_2.take 4)) := (forN_st ls_1_0).trans ((forN_st ls_1_1).trans (rfl))
theorem ll_1 : F_spec_l9Words_l1 (wordsL.take 1, seenL 1, lev_1) = some (.nx (wordsL.take 3, seenL 3, lev_2)) := ll_of lf_1 rfl rfl (by decide)
def lev_3 : List (List UInt8) := ([[72, 83, 72], [72, 83, 83], [83, 72, 72], [83, 72, 83], [83, 83, 72], [83, 83, 83]] : List (List UInt8))
theorem ls_2_0 : F_spec_l9Words_l2 lev_2 0 (wordsL.take 3, seenL 3, []) = some (wordsL.take 3, seenL 3, []) := by decide +kernel
theorem ls_2_1 : F_spec_l9Words_l2 lev_2 1 (wordsL.take 3, seenL 3, []) = some (wordsL.take 4, seenL 4, (lev_3.take 2)) := by decide +kernel
theorem ls_2_2 : F_spec_l9Words_l2 lev_2 2 (wordsL.take 4, seenL 4, (lev_3.take 2)) = some (wordsL.take 5, seenL 5, (lev_3.take 4)) := by decide +kernel
theorem ls_2_3 : F_spec_l9Words_l2 lev_2 3 (wordsL.take 5, seenL 5, (lev_3.take 4)) = some (wordsL.take 6, seenL 6, (lev_3.take 6)) := by decide +kernel
theorem lf_2 : forN (F_spec_l9Words_l2 lev_2) 4 0 (wordsL.take 3, seenL 3, []) = some (wordsL.take 6, seenL 6, (lev_3.take 6)) := (forN_st ls_2_0).trans ((forN_st ls_2_1).trans ((forN_st ls_2_2).trans ((forN_st ls_2_3).trans (rfl))))
theorem ll_2 : F_spec_l9Words_l1 (wordsL.take 3, seenL 3, lev_2) = some (.nx (wordsL.take 6, seenL 6, lev_3)) := ll_of lf_2 rfl rfl (by decide)
def lev_4 : List (List UInt8) := ([[72, 83, 72, 72], [72, 83, 72, 83], [72, 83, 83, 72], [72, 83, 83, 83], [83, 72, 83, 72], [83, 72, 83, 83], [83, 83, 72, 72], [83, 83, 72, 83], [83, 83, 83, 72], [83, 83, 83, 83]] : List (List UInt8))
theorem ls_3_0 : F_spec_l9Words_l2 lev_3 0 (wordsL.take 6, seenL 6, []) = some (wordsL.take 7, seenL 7, (lev_4.take 2)) := by decide +kernel
theorem ls_3_1 : F_spec_l9Words_l2 lev_3 1 (wordsL.take 7, seenL 7, (lev_4.take 2)) = some (wordsL.take 8, seenL 8, (lev_4.take 4)) := by decide +kernel
theorem ls_3_2 : F_spec_l9Words_l2 lev_3 2 (wordsL.take 8, seenL 8, (lev_4.take 4)) = some (wordsL.take 8, seenL 8, (lev_4.take 4)) := by decide +kernel
theorem ls_3_3 : F_spec_l9Words_l2 lev_3 3 (wordsL.take 8, seenL 8, (lev_4.take 4)) = some (wordsL.take 9, seenL 9, (lev_4.take 6)) := by decide +kernel
theorem ls_3_4 : F_spec_l9Words_l2 lev_3 4 (wordsL.take 9, seenL 9, (lev_4.take 6)) = some (wordsL.take 10, seenL 10, (lev_4.take 8)) := by decide +kernel
theorem ls_3_5 : F_spec_l9Words_l2 lev_3 5 (wordsL.take 10, seenL 10, (lev_4.take 8)) = some (wordsL.take 11, seenL 11, (lev_4.take 10)) := by decide +kernel
theorem lf_3 : forN (F_spec_l9Words_l2 lev_3) 6 0 (wordsL.take 6, seenL 6, []) = some (wordsL.take 11, seenL 11, (lev_4.take 10)) := (forN_st ls_3_0).trans ((forN_st ls_3_1).trans ((forN_st ls_3_2).trans ((forN_st ls_3_3).trans ((forN_st ls_3_4).trans ((forN_st ls_3_5).trans (rfl))))))
theorem ll_3 : F_spec_l9Words_l1 (wordsL.take 6, seenL 6, lev_3) = some (.nx (wordsL.take 11, seenL 11, lev_4)) := ll_of lf_3 rfl rfl (by decide)
def lev_5 : List (List UInt8) := ([[72, 83, 72, 83, 72], [72, 83, 72, 83, 83], [72, 83, 83, 72, 72], [72, 83, 83, 72, 83], [72, 83, 83, 83, 72], [72, 83, 83, 83, 83], [83, 72, 83, 83, 72], [83, 72, 83, 83, 83], [83, 83, 72, 83, 72], [83, 83, 72, 83, 83]] : List (List UInt8))
theorem ls_4_0 : F_spec_l9Words_l2 lev_4 0 (wordsL.take 11, seenL 11, []) = some (wordsL.take 11, seenL 11, []) := by decide +kernel
theorem ls_4_1 : F_spec_l9Words_l2 lev_4 1 (wordsL.take 11, seenL 11, []) = some (wordsL.take 12, seenL 12, (lev_5.take 2)) := by decide +kernel
theorem ls_4_2 : F_spec_l9Words_l2 lev_4 2 (wordsL.take 12, seenL 12, (lev_5.take 2)) = some (wordsL.take 13, seenL 13, (lev_5.take 4)) := by decide +kernel
theorem ls_4_3 : F_spec_l9Words_l2 lev_4 3 (wordsL.take 13, seenL 13, (lev_5.take 4)) = some (wordsL.take 14, seenL 14, (lev_5.take 6)) := by decide +kernel
theorem ls_4_4 : F_spec_l9Words_l2 lev_4 4 (wordsL.take 14, seenL 14, (lev_5.take 6)) = some (wordsL.take 14, seenL 14, (lev_5.take 6)) := by decide +kernel
theorem ls_4_5 : F_spec_l9Words_l2 lev_4 5 (wordsL.take 14, seenL 14, (lev_5.take 6)) = some (wordsL.take 15, seenL 15, (lev_5.take 8)) := by decide +kernel
theorem ls_4_6 : F_spec_l9Words_l2 lev_4 6 (wordsL.take 15, seenL 15, (lev_5.take 8)) = some (wordsL.take 15, seenL 15, (lev_5.take 8)) := by decide +kernel
theorem ls_4_7 : F_spec_l9Words_l2 lev_4 7 (wordsL.take 15, seenL 15, (lev_5.take 8)) = some (wordsL.take 16, seenL 16, (lev_5.take 10)) := by decide +kernel
theorem ls_4_8 : F_spec_l9Words_l2 lev_4 8 (wordsL.take 16, seenL 16, (lev_5.take 10)) = some (wordsL.take 16, seenL 16, (lev_5.take 10)) := by decide +kernel
theorem ls_4_9 : F_spec_l9Words_l2 lev_4 9 (wordsL.take 16, seenL 16, (lev_5.take 10)) = some (wordsL.take 16, seenL 16, (lev_5.take 10)) := by decide +kernel
theorem lf_4 : forN (F_spec_l9Words_l2 lev_4) 10 0 (wordsL.take 11, seenL 11, []) = some (wordsL.take 16, seenL 16, (lev_5.take 10)) := (forN_st ls_4_0).trans ((forN_st ls_4_1).trans ((forN_st ls_4_2).trans ((forN_st ls_4_3).trans ((forN_st ls_4_4).trans ((forN_st ls_4_5).trans ((forN_st ls_4_6).trans ((forN_st ls_4_7).trans ((forN_st ls_4_8).trans ((forN_st ls_4_9).trans (rfl))))))))))
theorem ll_4 : F_spec_l9Words_l1 (wordsL.take 11, seenL 11, lev_4) = some (.nx (wordsL.take 16, seenL 16, lev_5)) := ll_of lf_4 rfl rfl (by decide)
def lev_6 : List (List UInt8) := ([[72, 83, 72, 83, 83, 72], [72, 83, 72, 83, 83, 83], [72, 83, 83, 72, 83, 72], [72, 83, 83, 72, 83, 83], [83, 72, 83, 83, 72, 72], [83, 72, 83, 83, 72, 83], [83, 72, 83, 83, 83, 72], [83, 72, 83, 83, 83, 83], [83, 83, 72, 83, 83, 72], [83, 83, 72, 83, 83, 83]] : List (List UInt8))
theorem ls_5_0 : F_spec_l9Words_l2 lev_5 0 (wordsL.take 16, seenL 16, []) = some (wordsL.take 16, seenL 16, []) := by decide +kernel
theorem ls_5_1 : F_spec_l9Words_l2 lev_5 1 (wordsL.take 16, seenL 16, []) = some (wordsL.take 17, seenL 17, (lev_6.take 2)) := by decide +kernel
theorem ls_5_2 : F_spec_l9Words_l2 lev_5 2 (wordsL.take 17, seenL 17, (lev_6.take 2)) = some (wordsL.take 17, seenL 17, (lev_6.take 2)) := by decide +kernel
theorem ls_5_3 : F_spec_l9Words_l2 lev_5 3 (wordsL.take 17, seenL 17, (lev_6.take 2)) = some (wordsL.take 18, seenL 18, (lev_6.take 4)) := by decide +kernel
theorem ls_5_4 : F_spec_l9Words_l2 lev_5 4 (wordsL.take 18, seenL 18, (lev_6.take 4)) = some (wordsL.take 18, seenL 18, (lev_6.take 4)) := by decide +kernel
theorem ls_5_5 : F_spec_l9Words_l2 lev_5 5 (wordsL.take 18, seenL 18, (lev_6.take 4)) = some (wordsL.take 18, seenL 18, (lev_6.take 4)) := by decide +kernel
theorem ls_5_6 : F_spec_l9Words_l2 lev_5 6 (wordsL.take 18, seenL 18, (lev_6.take 4)) = some (wordsL.take 19, seenL 19, (lev_6.take 6)) := by decide +kernel
theorem ls_5_7 : F_spec_l9Words_l2 lev_5 7 (wordsL.take 19, seenL 19, (lev_6.take 6)) = some (wordsL.take 20, seenL 20, (lev_6.take 8)) := by decide +kernel
theorem ls_5_8 : F_spec_l9Words_l2 lev_5 8 (wordsL.take 20, seenL 20, (lev_6.take 8)) = some (wordsL.take 20, seenL 20, (lev_6.take 8)) := by decide +kernel
theorem ls_5_9 : F_spec_l9Words_l2 lev_5 9 (wordsL.take 20, seenL 20, (lev_6.take 8)) = some (wordsL.take 21, seenL 21, (lev_6.take 10)) := by decide +kernel
theorem lf_5 : forN (F_spec_l9Words_l2 lev_5) 10 0 (wordsL.take 16, seenL 16, []) = some (wordsL.take 21, seenL 21, (lev_6.take 10)) := (forN_st ls_5_0).trans ((forN_st ls_5_1).trans ((forN_st ls_5_2).trans ((forN_st ls_5_3).trans ((forN_st ls_5_4).trans ((forN_st ls_5_5).trans ((forN_st ls_5_6).trans ((forN_st ls_5_7).trans ((forN_st ls_5_8).trans ((forN_st ls_5_9).trans (rfl))))))))))
theorem ll_5 : F_spec_l9Words_l1 (wordsL.take 16, seenL 16, lev_5) = some (.nx (wordsL.take 21, seenL 21, lev_6)) := ll_of lf_5 rfl rfl (by decide)
def lev_7 : List (List UInt8) := ([[72, 83, 72, 83, 83, 72, 72], [72, 83, 72, 83, 83, 72, 83], [72, 83, 72, 83, 83, 83, 72], [72, 83, 72, 83, 83, 83, 83], [72, 83, 83, 72, 83, 83, 72], [72, 83, 83, 72, 83, 83, 83]] : List (List UInt8))
theorem ls_6_0 : F_spec_l9Words_l2 lev_6 0 (wordsL.take 21, seenL 21, []) = some (wordsL.take 22, seenL 22, (lev_7.take 2)) := by decide +kernel
theorem ls_6_1 : F_spec_l9Words_l2 lev_6 1 (wordsL.take 22, seenL 22, (lev_7.take 2)) = some (wordsL.take 23, seenL 23, (lev_7.take 4)) := by decide +kernel
theorem ls_6_2 : F_spec_l9Words_l2 lev_6 2 (wordsL.take 23, seenL 23, (lev_7.take 4)) = some (wordsL.take 23, seenL 23, (lev_7.take 4)) := by decide +kernel
theorem ls_6_3 : F_spec_l9Words_l2 lev_6 3 (wordsL.take 23, seenL 23, (lev_7.take 4)) = some (wordsL.take 24, seenL 24, (lev_7.take 6)) := by decide +kernel
theorem ls_6_4 : F_spec_l9Words_l2 lev_6 4 (wordsL.take 24, seenL 24, (lev_7.take 6)) = some (wordsL.take 24, seenL 24, (lev_7.take 6)) := by decide +kernel
theorem ls_6_5 : F_spec_l9Words_l2 lev_6 5 (wordsL.take 24, seenL 24, (lev_7.take 6)) = some (wordsL.take 24, seenL 24, (lev_7.take 6)) := by decide +kernel
theorem ls_6_6 : F_spec_l9Words_l2 lev_6 6 (wordsL.take 24, seenL 24, (lev_7.take 6)) = some (wordsL.take 24, seenL 24, (lev_7.take 6)) := by decide +kernel
theorem ls_6_7 : F_spec_l9Words_l2 lev_6 7 (wordsL.take 24, seenL 24, (lev_7.take 6)) = some (wordsL.take 24, seenL 24, (lev_7.take 6)) := by decide +kernel
theorem ls_6_8 : F_spec_l9Words_l2 lev_6 8 (wordsL.take 24, seenL 24, (lev_7.take 6)) = some (wordsL.take 24, seenL 24, (lev_7.take 6)) := by decide +kernel
theorem ls_6_9 : F_spec_l9Words_l2 lev_6 9 (wordsL.take 24, seenL 24, (lev_7.take 6)) = some (wordsL.take 24, seenL 24, (lev_7.take 6)) := by decide +kernel
theorem lf_6 : forN (F_spec_l9Words_l2 lev_6) 10 0 (wordsL.take 21, seenL 21, []) = some (wordsL.take 24, seenL 24, (lev_7.take 6)) := (forN_st ls_6_0).trans ((forN_st ls_6_1).trans ((forN_st ls_6_2).trans ((forN_st ls_6_3).trans ((forN_st ls_6_4).trans ((forN_st ls_6_5).trans ((forN_st ls_6_6).trans ((forN_st ls_6_7).trans ((forN_st ls_6_8).trans ((forN_st ls_6_9).trans (rfl))))))))))
theorem ll_6 : F_spec_l9Words_l1 (wordsL.take 21, seenL 21, lev_6) = some (.nx (wordsL.take 24, seenL 24, lev_7)) := ll_of lf_6 rfl rfl (by decide)
theorem ll_end : F_spec_l9Words_l1 (wordsL.take 24, seenL 24, lev_7) = some (.br (wordsL, seenL 24, lev_7)) := rfl
theorem ll_loop (n : Nat) : whX F_spec_l9Words_l1 (n + 8) (wordsL.take 0, seenL 0, lev_0) = some (.inl (wordsL, seenL 24, lev_7)) := (whX_nx ll_0).trans ((whX_nx ll_1).trans ((whX_nx ll_2).trans ((whX_nx ll_3).trans ((whX_nx ll_4).trans ((whX_nx ll_5).trans ((whX_nx ll_6).trans (whX_br ll_end)))))))
theorem words_spec : F_spec_l9Words = some wordsL := by
  unfold F_spec_l9Words
  have := ll_loop (fuel - 8)
  rw [show fuel - 8 + 8 = fuel from rfl] at this
  rw [show (([] : List (List UInt8)), ([] : List TBloch), ([([] : List UInt8)] : List (List UInt8))) = (wordsL.take 0, seenL 0, lev_0) from rfl, this]
  rfl
/-- A letter that is taken at a place. -/
def chOk (i : Nat) (x : UInt8) : Bool := !((((x.toNat : Int) != 72) && ((x.toNat : Int) != 83)) && (((x.toNat : Int) != 84) || (decide (0 < (i : Int)))))
theorem impl_form (f : TNormalForm) : F_impl_IsValidForm f = F_spec_l10Valid f := rfl
theorem form_both (f : TNormalForm) (hl : SL f.Syllables) : ∃ v, F_spec_l10Valid f = some v ∧ (v = true → (∀ (i : Nat) (x : UInt8), f.Syllables[i]? = some x → x.toNat = 72 ∨ x.toNat = 83 ∨ x.toNat = 84) ∧ f.Syllables.length ≤ 40 ∧ (0 ≤ f.Clifford ∧ f.Clifford ≤ 23) ∧ (0 ≤ f.Phase ∧ f.Phase ≤ 7)) := by
  unfold F_spec_l10Valid
  rw [chk_t (show f.Syllables.length ≤ 9223372036854775807 from hl)]
  rcases forX_inv (f := F_spec_l10Valid_l1 f) (fun j _ => ∀ (i : Nat) (x : UInt8), i < j → f.Syllables[i]? = some x → chOk i x = true) (fun r => r = false) f.Syllables.length 0 () (fun i x hi => absurd hi (Nat.not_lt_zero _)) (fun j _ _ hj hI => by
    have hj : j < f.Syllables.length := by omega
    unfold F_spec_l10Valid_l1
    rw [getI_nat, List.getElem?_eq_getElem hj, Option.bind_some]
    cases hc : ((((((f.Syllables[j]).toNat : Int) != 72) && (((f.Syllables[j]).toNat : Int) != 83)) && ((((f.Syllables[j]).toNat : Int) != 84) || (decide (0 < (j : Int))))))
    · refine .inl ⟨(), rfl, fun i x hi hx => ?_⟩
      by_cases h : i = j
      · subst h
        rw [List.getElem?_eq_getElem hj] at hx
        cases hx
        unfold chOk; rw [hc]; rfl
      · exact hI i x (by omega) hx
    · exact .inr ⟨false, rfl, rfl⟩) with ⟨_, h1, h2⟩ | ⟨r, h1, h2⟩
  · rw [h1]
    simp only [Option.bind_some, orR, F_spec_l1In]
    cases e1 : decide ((f.Syllables.length : Int) ≤ 40) with
    | false => exact ⟨false, rfl, fun h => by cases h⟩
    | true =>
      simp only [gb, cond_true, Option.bind_some, Bool.true_and]
      cases e2 : decide (0 ≤ f.Clifford) && decide (f.Clifford ≤ 23) with
      | false => exact ⟨false, rfl, fun h => by cases h⟩
      | true =>
        simp only [cond_true, Option.bind_some, Bool.true_and]
        refine ⟨_, rfl, fun h => ⟨fun i x hx => ?_, ?_, ?_, ?_⟩⟩
        · have hi := (List.getElem?_eq_some_iff.1 hx).1
          have := h2 i x (by omega) hx
          unfold chOk at this
          simp only [Bool.not_eq_true', Bool.and_eq_false_iff, bne_eq_false_iff_eq, Bool.or_eq_false_iff] at this
          omega
        · simp only [decide_eq_true_eq] at e1; omega
        · simpa using e2
        · simpa using h
  · rw [h1, h2]; exact ⟨false, rfl, fun h => by cases h⟩
/-- The gates of a syllable. -/
def sgG (x : UInt8) : List TGate := bif (x.toNat : Int) == 72 then [TGate.mk 7 0 0, TGate.mk 1 0 0] else bif (x.toNat : Int) == 83 then [TGate.mk 7 0 0, TGate.mk 1 0 0, TGate.mk 5 0 0] else [TGate.mk 7 0 0]
theorem sg_impl (x : UInt8) : F_impl_syllableGates (x.toNat : Int) = some (sgG x) := by
  unfold F_impl_syllableGates sgG
  cases (x.toNat : Int) == 72 <;> cases (x.toNat : Int) == 83 <;> rfl
theorem sg_spec (x : UInt8) (h : x.toNat = 72 ∨ x.toNat = 83 ∨ x.toNat = 84) : F_spec_l10Gates (x.toNat : Int) = some (sgG x) := by
  unfold F_spec_l10Gates sgG
  rcases h with h | h | h <;> rw [h] <;> decide
theorem sg_len (x : UInt8) : (sgG x).length ≤ 3 := by
  unfold sgG
  cases (x.toNat : Int) == 72 <;> cases (x.toNat : Int) == 83 <;> simp
def okG (g : TGate) : Bool := gOk 1 g
theorem sg_ok (x : UInt8) : (sgG x).all okG = true := by
  unfold sgG
  cases (x.toNat : Int) == 72 <;> cases (x.toNat : Int) == 83 <;> decide
/-- The gates that a form's letters name: H, S, T. -/
def okH (g : TGate) : Bool := g == TGate.mk 1 0 0 || g == TGate.mk 5 0 0 || g == TGate.mk 7 0 0
def nH (l : List TGate) : Nat := l.countP fun g => g.Kind == 1
theorem sg_okH (x : UInt8) : (sgG x).all okH = true ∧ nH (sgG x) ≤ 1 := by
  unfold sgG
  cases (x.toNat : Int) == 72 <;> cases (x.toNat : Int) == 83 <;> decide
theorem sgs_okH : ∀ l : List UInt8, (l.flatMap sgG).all okH = true ∧ nH (l.flatMap sgG) ≤ l.length
  | [] => ⟨rfl, Nat.le_refl _⟩
  | x :: l => by
    obtain ⟨h1, h2⟩ := sg_okH x
    obtain ⟨h3, h4⟩ := sgs_okH l
    rw [List.flatMap_cons]
    refine ⟨by rw [List.all_append, h1, h3]; rfl, ?_⟩
    unfold nH at *
    rw [List.countP_append, List.length_cons]
    omega
theorem syl_loop {ρ : Type} {f : TNormalForm} {b : (List TGate × Int) → Option (Ex (List TGate × Int) ρ)}
    (hb : ∀ (G : List TGate) (i : Nat) (x : UInt8), f.Syllables[i]? = some x → G.length + 3 ≤ 1099511627776 → b (G, (i : Int)) = some (.nx (G ++ sgG x, (i : Int) - 1))) (he : ∀ G, b (G, -1) = some (.br (G, -1))) :
    ∀ (k n : Nat) (G : List TGate), k ≤ f.Syllables.length → G.length + 3 * k ≤ 1000 → G.all okG = true → ∃ G', whX b (n + k + 1) (G, (k : Int) - 1) = some (.inl (G', -1)) ∧ G'.length ≤ G.length + 3 * k ∧ G'.all okG = true ∧ G' = G ++ ((f.Syllables.take k).reverse.flatMap sgG)
  | 0, n, G, _, _, hG => ⟨G, by exact whX_br (he G), by omega, hG, by simp⟩
  | k + 1, n, G, hk, hl, hG => by
    have hk' : k < f.Syllables.length := by omega
    have hx := List.getElem?_eq_getElem hk'
    obtain ⟨G', h1, h2, h3, h4⟩ := syl_loop hb he k n (G ++ sgG f.Syllables[k]) (by omega) (by have := sg_len f.Syllables[k]; rw [List.length_append]; omega) (by rw [List.all_append, hG, sg_ok]; rfl)
    refine ⟨G', ?_, ?_, h3, ?_⟩
    · rw [show n + (k + 1) + 1 = (n + k + 1) + 1 by omega, show (((k + 1 : Nat) : Int) - 1) = (k : Int) by omega]
      rw [whX_nx (hb G k _ hx (by omega))]
      exact h1
    · have := sg_len f.Syllables[k]
      rw [List.length_append] at h2
      omega
    · have ht : f.Syllables.take (k + 1) = f.Syllables.take k ++ [f.Syllables[k]] := by rw [List.take_add_one, hx]; rfl
      rw [h4, ht, List.reverse_append]
      simp [List.append_assoc]
theorem word_gates (x : List UInt8) (hx : x.length ≤ 100) : ∃ G, forN (F_spec_l10Circuit_l1 x) x.length 0 [] = some G ∧ G.length = x.length ∧ G.all okG = true ∧ G.all okH = true := by
  obtain ⟨G, h1, h2, h3, h4⟩ := forN_inv (f := F_spec_l10Circuit_l1 x) (fun j G => G.length = j ∧ G.all okG = true ∧ G.all okH = true) x.length 0 [] ⟨rfl, rfl, rfl⟩ (fun j G _ hj ⟨h1, h2, h3⟩ => by
    have hj : j < x.length := by omega
    unfold F_spec_l10Circuit_l1
    rw [getI_nat, List.getElem?_eq_getElem hj, Option.bind_some]
    cases ((x[j].toNat : Int) == 83)
    · simp only [cond_false, Option.bind_some]
      rw [chk_t (by omega)]
      exact ⟨_, rfl, by rw [List.length_append, h1]; rfl, by rw [List.all_append, h2]; decide, by rw [List.all_append, h3]; decide⟩
    · simp only [cond_true, Option.bind_some]
      rw [chk_t (by omega)]
      exact ⟨_, rfl, by rw [List.length_append, h1]; rfl, by rw [List.all_append, h2]; decide, by rw [List.all_append, h3]; decide⟩)
  exact ⟨G, h1, by omega, h3, h4⟩
theorem phase_gates (G0 : List TGate) (n : Nat) (hn : n ≤ 7) (hl : G0.length ≤ 1000) (h0 : G0.all okG = true) : ∃ G, forN F_spec_l10Circuit_l3 n 0 G0 = some G ∧ G.length ≤ G0.length + 7 ∧ G.all okG = true ∧ G = G0 ++ List.replicate n (TGate.mk 12 0 0) := by
  obtain ⟨G, h1, h2, h3, h4⟩ := forN_inv (f := F_spec_l10Circuit_l3) (fun j G => G.length = G0.length + j ∧ G.all okG = true ∧ G = G0 ++ List.replicate j (TGate.mk 12 0 0)) n 0 G0 ⟨rfl, h0, by simp⟩ (fun j G _ hj ⟨h1, h2, h3⟩ => by
    unfold F_spec_l10Circuit_l3
    rw [chk_t (by omega)]
    exact ⟨_, rfl, by rw [List.length_append, h1]; rfl, by rw [List.all_append, h2]; decide, by rw [h3, List.replicate_succ', List.append_assoc]⟩)
  rw [Nat.zero_add] at h4
  exact ⟨G, h1, by omega, h3, h4⟩
theorem words_small : ∀ w ∈ wordsL, w.length ≤ 7 := by decide
theorem form_circ (f : TNormalForm) (hs : ∀ (i : Nat) (x : UInt8), f.Syllables[i]? = some x → x.toNat = 72 ∨ x.toNat = 83 ∨ x.toNat = 84) (hl : f.Syllables.length ≤ 40) (hc : 0 ≤ f.Clifford ∧ f.Clifford ≤ 23) (hp : 0 ≤ f.Phase ∧ f.Phase ≤ 7) :
    ∃ (G0 G : List TGate), F_impl_formGates f = some G0 ∧ forN F_spec_l10Circuit_l3 f.Phase.toNat 0 G0 = some G ∧ F_spec_l10Circuit f = some (TCircuit.mk 1 G) ∧ G.length ≤ 134 ∧ G.all okG = true ∧ G0.all okH = true ∧ nH G0 ≤ 47 ∧ G0.length ≤ 127 ∧ G = G0 ++ List.replicate f.Phase.toNat (TGate.mk 12 0 0) := by
  obtain ⟨w, h1, h2⟩ := getI_at (l := wordsL) (i := f.Clifford) hc.1 (by show f.Clifford < 24; omega)
  have hw : w.length ≤ 7 := words_small w (List.mem_of_getElem? h2)
  obtain ⟨G1, g1, g2, g3, g4⟩ := word_gates w (by omega)
  have hF : ∀ (k : Nat), k ≤ 40 → fuel = (fuel - k - 1) + k + 1 := fun k hk => by
    have : (1000 : Nat) ≤ fuel := by decide
    omega
  have hbs : ∀ (G : List TGate) (i : Nat) (x : UInt8), f.Syllables[i]? = some x → G.length + 3 ≤ 1099511627776 → F_spec_l10Circuit_l2 f (G, (i : Int)) = some (.nx (G ++ sgG x, (i : Int) - 1)) := fun G i x hx hG => by
    have hi := (List.getElem?_eq_some_iff.1 hx).1
    unfold F_spec_l10Circuit_l2
    simp only [show decide (0 ≤ (i : Int)) = true from decide_eq_true (by omega), cond_true, getI_nat, hx, Option.bind_some, sg_spec x (hs i x hx)]
    rw [chk_t (by have := sg_len x; omega), wrap_i64 ⟨by omega, by omega⟩]
  have hbi : ∀ (G : List TGate) (i : Nat) (x : UInt8), f.Syllables[i]? = some x → G.length + 3 ≤ 1099511627776 → F_impl_formGates_l1 f (G, (i : Int)) = some (.nx (G ++ sgG x, (i : Int) - 1)) := fun G i x hx hG => by
    have hi := (List.getElem?_eq_some_iff.1 hx).1
    unfold F_impl_formGates_l1
    simp only [show decide (0 ≤ (i : Int)) = true from decide_eq_true (by omega), cond_true, getI_nat, hx, Option.bind_some, sg_impl x]
    rw [chk_t (by have := sg_len x; omega), wrap_i64 ⟨by omega, by omega⟩]
  obtain ⟨Gs, s1, s2, s3, s4⟩ := syl_loop (f := f) (b := F_spec_l10Circuit_l2 f) hbs (fun G => rfl) f.Syllables.length (fuel - f.Syllables.length - 1) G1 (Nat.le_refl _) (by omega) g3
  obtain ⟨Gi, i1, i2, i3, i4⟩ := syl_loop (f := f) (b := F_impl_formGates_l1 f) hbi (fun G => rfl) f.Syllables.length (fuel - f.Syllables.length - 1) G1 (Nat.le_refl _) (by omega) g3
  rw [← hF _ hl] at s1 i1
  have hsame : Gi = Gs := by rw [s4, i4]
  subst hsame
  obtain ⟨G, p1, p2, p3, p4⟩ := phase_gates Gi f.Phase.toNat (by omega) (by omega) s3
  have hk : Gi.all okH = true ∧ nH Gi ≤ 47 := by
    rw [s4]
    obtain ⟨k1, k2⟩ := sgs_okH (f.Syllables.take f.Syllables.length).reverse
    refine ⟨by rw [List.all_append, g4, k1]; rfl, ?_⟩
    have k3 : nH G1 ≤ G1.length := List.countP_le_length
    have k4 : (f.Syllables.take f.Syllables.length).reverse.length ≤ 40 := by simp; omega
    unfold nH at *
    rw [List.countP_append]
    omega
  refine ⟨Gi, G, ?_, p1, ?_, by omega, p3, hk.1, hk.2, by omega, p4⟩
  · unfold F_impl_formGates F_impl_wordGates F_impl_CliffordWord F_impl_within
    rw [list_impl]
    simp only [Option.bind_some]
    rw [show IntKind.i64.wrap ((wordsL.length : Int) - 1) = 23 from rfl, show (decide (0 ≤ f.Clifford) && decide (f.Clifford ≤ 23)) = true by simp [hc.1, hc.2]]
    simp only [Bool.not_true, cond_false, h1, Option.bind_some]
    rw [chk_t (by omega), show forN (F_impl_wordGates_l1 w) w.length 0 [] = some G1 from g1]
    simp only [Option.bind_some]
    rw [wrap_i64 ⟨by omega, by omega⟩, i1]
    rfl
  · unfold F_spec_l10Circuit
    rw [words_spec]
    simp only [Option.bind_some, h1]
    rw [chk_t (by omega), g1]
    simp only [Option.bind_some]
    rw [wrap_i64 ⟨by omega, by omega⟩, s1]
    simp only [Option.bind_some, orR]
    rw [chk_t (by omega), p1]
    rfl
theorem wn_succ {k : Int} (h0 : 0 ≤ k) (h : k + 1 ≤ 9223372036854775807) : IntKind.i64.wrap (k + 1) = k + 1 := wrap_i64 ⟨by omega, by omega⟩
theorem to_NormalForm (a : TNormalForm) : F_laws_toNormalForm a = some a := by
  unfold F_laws_toNormalForm; simp
theorem eqr_GateS (a : List TGate) (h : a.length ≤ 1099511627776) : F_laws_eqGateS a a = some true := by
  unfold F_laws_eqGateS
  simp only [bne_self_eq_false, cond_false]
  rw [chk_t (by omega), forX_pass (fun i hi => ?_)]
  · simp [orR]
  · unfold F_laws_eqGateS_l1 F_laws_eqGate
    simp [getI_nat, List.getElem?_eq_getElem hi]
theorem mk_GateS (a : List TGate) (k : Int) (h0 : 0 ≤ k) (h : k ≤ 1152921504606846976) (ha : a.length ≤ 1099511627776) : ∃ m, F_laws_markGateS a k = some (k + a.length * 3, m) ∧ F_laws_heldGateS m k = some (k + a.length * 3) := by
  obtain ⟨m, h1, hl, h2⟩ := mark_held (mk := fun (x : TGate) k => TGate.mk k (IntKind.i64.wrap (k + 1)) (IntKind.i64.wrap ((IntKind.i64.wrap (k + 1)) + 1))) (nx := fun k => (IntKind.i64.wrap ((IntKind.i64.wrap ((IntKind.i64.wrap (k + 1)) + 1)) + 1)))
    (f := F_laws_markGateS_l1) (g := F_laws_heldGateS_l1)
    (fun i m k x hx => by unfold F_laws_markGateS_l1; simp [getI_nat, hx]) (fun m i k x hx => by unfold F_laws_heldGateS_l1; simp [getI_nat, hx]) a k
  have hn := iter_add (c := 3) (nx := fun k => (IntKind.i64.wrap ((IntKind.i64.wrap ((IntKind.i64.wrap (k + 1)) + 1)) + 1))) (by omega) (fun k hk hk' => by simp (disch := omega) only [wn_succ] <;> omega) a.length k h0 (by omega)
  refine ⟨m, ?_, ?_⟩
  · unfold F_laws_markGateS; rw [chk_t (by omega), h1, hn]; rfl
  · unfold F_laws_heldGateS; rw [chk_t (by omega), h2, hn]; rfl
theorem eqr_Circuit (a : TCircuit) (h0 : a.Gates.length ≤ 1099511627776) : F_laws_eqCircuit a a = some true := by
  unfold F_laws_eqCircuit; simp [eqr_GateS a.Gates h0]
theorem mk_Circuit (a : TCircuit) (k : Int) (h0' : 0 ≤ k) (h : k ≤ 1125899906842624) (h0 : a.Gates.length ≤ 1099511627776) : ∃ m0, F_laws_markCircuit a k = some (k + a.Gates.length * 3, m0) ∧ F_laws_heldCircuit (TCircuit.mk a.Qubits m0) k = some (k + a.Gates.length * 3) := by
  obtain ⟨m0, e0, g0⟩ := mk_GateS a.Gates (k) (by omega) (by omega) h0
  refine ⟨m0, ?_, ?_⟩
  · unfold F_laws_markCircuit; simp only [e0, Option.bind_some]
  · unfold F_laws_heldCircuit; simp only
    rw [g0]; simp only [Option.bind_some]
    rw [show decide (k + (a.Gates.length : Int) * 3 < 0) = false from decide_eq_false (by omega)]; simp only [cond_false]
theorem bif_some {α : Type} (b : Bool) (x y : α) : ∃ z, (bif b then some x else some y) = some z := by cases b <;> exact ⟨_, rfl⟩
/-- The law, where the two answer alike. -/
theorem law_of (a0 : TNormalForm) (ok0 : ok_NormalForm a0) (hb : ∃ (r0 : TCircuit) (r1 : Bool), F_spec_CircuitOfForm a0 = some (r0, r1) ∧ F_impl_CircuitOfForm a0 = some (r0, r1) ∧ r0.Gates.length ≤ 1099511627776) : F_laws_FnExactCircuitOfForm a0 = some true := by
  unfold F_laws_FnExactCircuitOfForm
  obtain ⟨z0, ez0⟩ : ∃ z, F_laws_szNormalForm a0 1048576 = some z := by unfold F_laws_szNormalForm; exact bif_some _ _ _
  by_cases bz0 : z0 < 0
  · simp only [ez0, Option.bind_some, decide_eq_true bz0, cond_true]
  obtain ⟨r0, r1, hs, hi, m0⟩ := hb 
  obtain ⟨kr0, mr0_0, fr0, gr0, hr0⟩ : ∃ k' mr0_0, F_laws_markCircuit r0 (1) = some (k', mr0_0) ∧ F_laws_heldCircuit (TCircuit.mk r0.Qubits mr0_0) (1) = some k' ∧ (0 ≤ k' ∧ k' ≤ 1 + 35184372088832) := by
    obtain ⟨mr0_0, e, g⟩ := mk_Circuit r0 (1) (by omega) (by omega) m0
    exact ⟨_, mr0_0, e, g, by omega, by omega⟩
  simp only [ez0, decide_eq_false bz0, cond_false, Option.bind_some, to_NormalForm, hs, hi, eqr_Circuit r0 m0, fr0, gr0, decide_eq_false (show ¬ kr0 < 0 by omega), cond_true, gb, Bool.not_true, Bool.not_false, Bool.or_false, Bool.false_or, Bool.or_self, beq_self_eq_true, bne_self_eq_false]
theorem law_FnExactCircuitOfForm (a0 : TNormalForm) (ok0 : ok_NormalForm a0) : F_laws_FnExactCircuitOfForm a0 = some true := by
  refine law_of a0 ok0 ?_
  obtain ⟨v, v1, v2⟩ := form_both a0 ok0.1
  unfold F_spec_CircuitOfForm F_impl_CircuitOfForm
  rw [impl_form, v1]
  simp only [Option.bind_some]
  cases v with
  | false => exact ⟨_, _, rfl, rfl, by decide⟩
  | true =>
    obtain ⟨hs, hl, hc, hp⟩ := v2 rfl
    obtain ⟨G0, G, c1, c2, c3, c4, c5, _⟩ := form_circ a0 hs hl hc hp
    rw [c1, c3]
    simp only [Bool.not_true, cond_false, Option.bind_some]
    rw [chk_t (by omega), show forN F_impl_CircuitOfForm_l1 a0.Phase.toNat 0 G0 = some G from c2]
    simp only [Option.bind_some, F_impl_circuitIf]
    rw [chk_t (by omega), impl_good _ (by show G.length ≤ 1048576; omega), show cOk (TCircuit.mk 1 G) = true from by
      unfold cOk
      show (decide ((1 : Int) ≤ 1) && decide ((1 : Int) ≤ 5) && decide (G.length ≤ 400) && G.all okG) = true
      rw [c5, decide_eq_true (show G.length ≤ 400 by omega)]
      rfl]
    exact ⟨_, _, rfl, rfl, by show G.length ≤ _; omega⟩
end Go.VK
