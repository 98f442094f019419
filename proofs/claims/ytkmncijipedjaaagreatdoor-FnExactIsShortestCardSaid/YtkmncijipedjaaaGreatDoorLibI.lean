/- Loops over lists in the functions' own words: invariants, two loops beside each other, marks that are found again. Plain lemmas. -/
import Derived.Test.YtkmncijipedjaaaGreatDoorLibG
namespace Go.VK

theorem getI_nat {α : Type} {l : List α} {i : Nat} : getI l (i : Int) = l[i]? := by simp [getI]
theorem getI_at {α : Type} {l : List α} {i : Int} (h0 : 0 ≤ i) (h1 : i < l.length) : ∃ x, getI l i = some x ∧ l[i.toNat]? = some x := by
  have h : i.toNat < l.length := by omega
  exact ⟨l[i.toNat], by simp [getI, h0, h], by simp [h]⟩
theorem chk_t {α : Type} {c : Prop} [Decidable c] {k : Option α} (h : c) : chk c k = k := if_pos h
theorem wrap_i64 {a : Int} (h : I64 a) : IntKind.i64.wrap a = a := by
  unfold I64 at h
  simp [IntKind.wrap, IntKind.signed, IntKind.bits]
  omega

section
variable {σ τ ρ ρ' : Type}
theorem forN_inv {f : Nat → σ → Option σ} (I : Nat → σ → Prop) : ∀ (k i : Nat) (s : σ), I i s → (∀ j s, i ≤ j → j < i + k → I j s → ∃ s', f j s = some s' ∧ I (j + 1) s') → ∃ s', forN f k i s = some s' ∧ I (i + k) s'
  | 0, i, s, h, _ => ⟨s, rfl, h⟩
  | k + 1, i, s, h, hs => by
    obtain ⟨s', h1, h2⟩ := hs i s (Nat.le_refl _) (by omega) h
    obtain ⟨s'', h3, h4⟩ := forN_inv I k (i + 1) s' h2 (fun j s hj hk hI => hs j s (by omega) (by omega) hI)
    exact ⟨s'', by simp only [forN, h1, Option.bind_some]; exact h3, by rw [show i + (k + 1) = i + 1 + k by omega]; exact h4⟩
theorem forN2_inv {f : Nat → σ → Option σ} {g : Nat → τ → Option τ} (I : Nat → σ → τ → Prop) : ∀ (k i : Nat) (s : σ) (t : τ), I i s t →
    (∀ j s t, i ≤ j → j < i + k → I j s t → ∃ s' t', f j s = some s' ∧ g j t = some t' ∧ I (j + 1) s' t') → ∃ s' t', forN f k i s = some s' ∧ forN g k i t = some t' ∧ I (i + k) s' t'
  | 0, i, s, t, h, _ => ⟨s, t, rfl, rfl, h⟩
  | k + 1, i, s, t, h, hs => by
    obtain ⟨s', t', h1, h1', h2⟩ := hs i s t (Nat.le_refl _) (by omega) h
    obtain ⟨s'', t'', h3, h3', h4⟩ := forN2_inv I k (i + 1) s' t' h2 (fun j s t hj hk hI => hs j s t (by omega) (by omega) hI)
    exact ⟨s'', t'', by simp only [forN, h1, Option.bind_some]; exact h3, by simp only [forN, h1', Option.bind_some]; exact h3', by rw [show i + (k + 1) = i + 1 + k by omega]; exact h4⟩
theorem forX_inv {f : Nat → σ → Option (Ex σ ρ)} (I : Nat → σ → Prop) (Q : ρ → Prop) : ∀ (k i : Nat) (s : σ), I i s →
    (∀ j s, i ≤ j → j < i + k → I j s → (∃ s', f j s = some (.nx s') ∧ I (j + 1) s') ∨ ∃ r, f j s = some (.rt r) ∧ Q r) → (∃ s', forX f k i s = some (.inl s') ∧ I (i + k) s') ∨ ∃ r, forX f k i s = some (.inr r) ∧ Q r
  | 0, i, s, h, _ => .inl ⟨s, rfl, h⟩
  | k + 1, i, s, h, hs => by
    rcases hs i s (Nat.le_refl _) (by omega) h with ⟨s', h1, h2⟩ | ⟨r, h1, h2⟩
    · rcases forX_inv I Q k (i + 1) s' h2 (fun j s hj hk hI => hs j s (by omega) (by omega) hI) with ⟨s'', h3, h4⟩ | ⟨r, h3, h4⟩
      · exact .inl ⟨s'', by simp only [forX, h1, Option.bind_some]; exact h3, by rw [show i + (k + 1) = i + 1 + k by omega]; exact h4⟩
      · exact .inr ⟨r, by simp only [forX, h1, Option.bind_some]; exact h3, h4⟩
    · exact .inr ⟨r, by simp only [forX, h1, Option.bind_some], h2⟩
theorem forX2_inv {f : Nat → σ → Option (Ex σ ρ)} {g : Nat → τ → Option (Ex τ ρ')} (I : Nat → σ → τ → Prop) (Q : ρ → ρ' → Prop) : ∀ (k i : Nat) (s : σ) (t : τ), I i s t →
    (∀ j s t, i ≤ j → j < i + k → I j s t → (∃ s' t', f j s = some (.nx s') ∧ g j t = some (.nx t') ∧ I (j + 1) s' t') ∨ ∃ r r', f j s = some (.rt r) ∧ g j t = some (.rt r') ∧ Q r r') →
    (∃ s' t', forX f k i s = some (.inl s') ∧ forX g k i t = some (.inl t') ∧ I (i + k) s' t') ∨ ∃ r r', forX f k i s = some (.inr r) ∧ forX g k i t = some (.inr r') ∧ Q r r'
  | 0, i, s, t, h, _ => .inl ⟨s, t, rfl, rfl, h⟩
  | k + 1, i, s, t, h, hs => by
    rcases hs i s t (Nat.le_refl _) (by omega) h with ⟨s', t', h1, h1', h2⟩ | ⟨r, r', h1, h1', h2⟩
    · rcases forX2_inv I Q k (i + 1) s' t' h2 (fun j s t hj hk hI => hs j s t (by omega) (by omega) hI) with ⟨s'', t'', h3, h3', h4⟩ | ⟨r, r', h3, h3', h4⟩
      · exact .inl ⟨s'', t'', by simp only [forX, h1, Option.bind_some]; exact h3, by simp only [forX, h1', Option.bind_some]; exact h3', by rw [show i + (k + 1) = i + 1 + k by omega]; exact h4⟩
      · exact .inr ⟨r, r', by simp only [forX, h1, Option.bind_some]; exact h3, by simp only [forX, h1', Option.bind_some]; exact h3', h4⟩
    · exact .inr ⟨r, r', by simp only [forX, h1, Option.bind_some], by simp only [forX, h1', Option.bind_some], h2⟩
/-- A loop that goes through to its end, the state as it was. -/
theorem forX_pass {f : Nat → σ → Option (Ex σ ρ)} {n : Nat} {s : σ} (h : ∀ i, i < n → f i s = some (.nx s)) : forX f n 0 s = some (.inl s) := by
  rcases forX_inv (f := f) (fun _ t => t = s) (fun _ => False) n 0 s rfl (fun j t _ hj ht => .inl ⟨s, by rw [ht]; exact h j (by omega), rfl⟩) with ⟨s', h1, rfl⟩ | ⟨r, _, hr⟩
  · exact h1
  · exact hr.elim
/-- A loop that looks for the first element of a kind. -/
theorem forX_any {α : Type} {f : Nat → Unit → Option (Ex Unit ρ)} {l : List α} {p : α → Bool} {q : Nat → ρ} (hf : ∀ i x, l[i]? = some x → f i () = some (bif p x then .rt (q i) else .nx ())) :
    (l.any p = false ∧ forX f l.length 0 () = some (.inl ())) ∨ (l.any p = true ∧ ∃ i, i < l.length ∧ forX f l.length 0 () = some (.inr (q i))) := by
  have h := forX_inv (f := f) (fun j _ => ∀ i, i < j → ∀ x, l[i]? = some x → p x = false) (fun r => l.any p = true ∧ ∃ i, i < l.length ∧ r = q i) l.length 0 () (fun i hi => absurd hi (Nat.not_lt_zero _)) (fun j s _ hj hI => by
    have hj : j < l.length := by omega
    have hx := List.getElem?_eq_getElem hj
    have := hf j _ hx
    cases hp : p l[j] with
    | false =>
      rw [hp] at this
      refine .inl ⟨(), this, fun i hi x hxi => ?_⟩
      rcases Nat.lt_succ_iff_lt_or_eq.1 hi with h | rfl
      · exact hI i h x hxi
      · rw [hx] at hxi; cases hxi; exact hp
    | true =>
      rw [hp] at this
      exact .inr ⟨q j, this, List.any_eq_true.2 ⟨l[j], List.getElem_mem hj, hp⟩, j, hj, rfl⟩)
  rcases h with ⟨⟨⟩, h1, h2⟩ | ⟨r, h1, h2, i, hi, rfl⟩
  · refine .inl ⟨?_, h1⟩
    rw [List.any_eq_false]
    intro x hx
    obtain ⟨i, hi⟩ := List.mem_iff_getElem?.1 hx
    have hlt := (List.getElem?_eq_some_iff.1 hi).1
    simp [h2 i (by omega) x hi]
  · exact .inr ⟨h2, i, hi, h1⟩
end
section
variable {β : Type}
/-- A row filled from its start. -/
theorem forN_fill {f : Nat → List β → Option (List β)} {a init : List β} (hl : init.length = a.length) (h : ∀ i out x, a[i]? = some x → out.length = a.length → f i out = some (out.set i x)) : forN f a.length 0 init = some a := by
  obtain ⟨s', h1, h2, h3⟩ := forN_inv (f := f) (fun j out => out.length = a.length ∧ ∀ i, i < j → out[i]? = a[i]?) a.length 0 init ⟨hl, fun i hi => absurd hi (Nat.not_lt_zero _)⟩ (fun j out _ hj ⟨ho, hI⟩ => by
    have hj : j < a.length := by omega
    refine ⟨_, h j out _ (List.getElem?_eq_getElem hj) ho, by simpa using ho, fun i hi => ?_⟩
    rw [List.getElem?_set]
    by_cases hji : j = i
    · subst hji; simp [ho, hj]
    · rw [if_neg hji]; exact hI i (by omega))
  rw [h1]
  congr 1
  apply List.ext_getElem?
  intro i
  by_cases hi : i < a.length
  · exact h3 i (by omega)
  · rw [List.getElem?_eq_none (by omega), List.getElem?_eq_none (by omega)]
/-- Marks, and what finds them again. -/
def iter (nx : Int → Int) : Nat → Int → Int
  | 0, k => k
  | n + 1, k => iter nx n (nx k)
theorem iter_succ (nx : Int → Int) : ∀ (n : Nat) (k : Int), iter nx (n + 1) k = nx (iter nx n k)
  | 0, _ => rfl
  | n + 1, k => by show iter nx (n + 1) (nx k) = _; rw [iter_succ nx n (nx k)]; rfl
theorem iter_add {nx : Int → Int} {c : Int} (hc : 0 ≤ c) (hn : ∀ k, 0 ≤ k → k + c ≤ 9223372036854775807 → nx k = k + c) : ∀ (n : Nat) (k : Int), 0 ≤ k → k + n * c ≤ 9223372036854775807 → iter nx n k = k + n * c
  | 0, k, _, _ => by simp [iter]
  | n + 1, k, h0, h1 => by
    have e : ((n + 1 : Nat) : Int) * c = n * c + c := by rw [Int.natCast_add, Int.add_mul]; simp
    have hnc : 0 ≤ (n : Int) * c := Int.mul_nonneg (by omega) hc
    rw [e] at h1
    show iter nx n (nx k) = _
    rw [hn k h0 (by omega), iter_add hc hn n (k + c) (by omega) (by omega), e]
    omega
theorem mark_held {mk : β → Int → β} {nx : Int → Int} {f : Nat → List β × Int → Option (List β × Int)} {g : List β → Nat → Int → Option (Ex Int Int)}
    (hf : ∀ i m k x, m[i]? = some x → f i (m, k) = some (m.set i (mk x k), nx k)) (hg : ∀ m i k x, m[i]? = some (mk x k) → g m i k = some (.nx (nx k))) (a : List β) (k : Int) :
    ∃ m, forN f a.length 0 (a, k) = some (m, iter nx a.length k) ∧ m.length = a.length ∧ forX (g m) m.length 0 k = some (.inl (iter nx a.length k)) := by
  obtain ⟨⟨m, k'⟩, h1, h2, h3, h4⟩ := forN_inv (f := f) (fun j s => s.1.length = a.length ∧ s.2 = iter nx j k ∧ ∀ i, i < j → ∃ x, s.1[i]? = some (mk x (iter nx i k))) a.length 0 (a, k) ⟨rfl, rfl, fun i hi => absurd hi (Nat.not_lt_zero _)⟩ (fun j s _ hj ⟨ho, hk, hI⟩ => by
    have hj : j < s.1.length := by omega
    obtain ⟨m, k'⟩ := s
    simp only at ho hk hI hj
    refine ⟨_, hf j m k' _ (List.getElem?_eq_getElem hj), by simpa using ho, by rw [iter_succ, hk], fun i hi => ?_⟩
    simp only [List.getElem?_set]
    by_cases hji : j = i
    · subst hji; exact ⟨m[j], by simp [hj, hk]⟩
    · rw [if_neg hji]; exact hI i (by omega))
  simp only [Nat.zero_add] at h2 h3 h4
  refine ⟨m, by rw [h1, h3], h2, ?_⟩
  rcases forX_inv (f := g m) (fun j s => s = iter nx j k) (fun _ => False) m.length 0 k rfl (fun j s _ hj hs => by
    obtain ⟨x, hx⟩ := h4 j (by omega)
    exact .inl ⟨nx s, by rw [hs]; exact hg m j _ x hx, by rw [iter_succ, hs]⟩) with ⟨s', h5, h6⟩ | ⟨_, _, h⟩
  · rw [h5, h6, Nat.zero_add, h2]
  · exact h.elim
end
end Go.VK
