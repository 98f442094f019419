/- The library's sort of a row of whole numbers, as a contract of ours. -/
import Derived.Test.YtmonoeihfeikeaaGreatLibP
import Derived.Sort.OwnSortedInts
namespace Go.VK
open Go.RowKit Go.Sort
theorem own_sorted {w w' : World} {g n c T : Nat} {cur : Array Value} {l : List Int} {os : Array Obj} (hb : w.heap[g]? = some (.cells cur T (0, 0))) (hsz : cur.size = c * 1) (hp : l.flatMap encI <+: cur.toList)
    (hw : w' = grow (putRow (Value.int .i64) (Sort.ahead w n) g 0 (sortI l).toArray) os) : w'.heap[g]? = some (.cells (putCells (Value.int .i64) 0 (sortI l).toArray cur) T (0, 0)) ∧ (putCells (Value.int .i64) 0 (sortI l).toArray cur).size = c * 1 ∧ (sortI l).flatMap encI <+: (putCells (Value.int .i64) 0 (sortI l).toArray cur).toList := by
  subst hw
  refine ⟨heap_sortedI _ hb, by simp [putCells, hsz], ?_⟩
  have hlen : (sortI l).length ≤ cur.size := by
    rw [sortI_len]
    have := hp.length_le
    rw [fm_len encI_len] at this
    simpa using this
  have ht := take_putCellsI cur (sortI l) hlen
  have e : (sortI l).flatMap encI = (sortI l).map (Value.int .i64) := by
    generalize sortI l = k
    induction k with
    | nil => rfl
    | cons a k ih => rw [List.flatMap_cons, List.map_cons, ih]; rfl
  rw [e, ← ht]
  exact List.take_prefix _ _
/-- What the contract says of the state of the heap. -/
theorem sort_state {w0 w' : World} {B : Option Addr} {T c k : Nat} {l : List Int} {os : Array Obj} {g : Nat} (hB : B = some ⟨g, 0, none⟩) (hS : ST w0 (bl [⟨B, T, l.flatMap encI, c * 1⟩]) w0 [⟨B, T, l.flatMap encI, c * 1⟩] [])
    (hw : w' = grow (putRow (Value.int .i64) (Sort.ahead w0 k) g 0 (sortI l).toArray) os) : ST w0 (bl [⟨B, T, l.flatMap encI, c * 1⟩]) w' [⟨B, T, (sortI l).flatMap encI, c * 1⟩] [] := by
  obtain ⟨g', cur, e1, e2, e3, e4⟩ : ∃ g' cur, B = some ⟨g', 0, none⟩ ∧ w0.heap[g']? = some (.cells cur T (0, 0)) ∧ cur.size = c * 1 ∧ l.flatMap encI <+: cur.toList := by
    rcases hS.own _ (List.mem_singleton.2 rfl) with ⟨h1, _⟩ | ⟨g', cur, h1, h2, h3, h4⟩
    · rw [hB] at h1; cases h1
    · exact ⟨g', cur, h1, h2, h3, h4⟩
  have hg : g' = g := by rw [hB] at e1; cases e1; rfl
  subst hg
  obtain ⟨f1, f2, f3⟩ := own_sorted e2 e3 e4 hw
  have gb : w0.grownBy w' (some g') := by rw [hw]; exact grownBy_sortedI _
  obtain ⟨b1, b2, b3, b4, b5⟩ := gb
  have := hS.step1 (w' := w') (i := 0) (o' := ⟨B, T, (sortI l).flatMap encI, c * 1⟩) rfl b1 b2 b3 b4 (fun k hk hne => b5 k hk (fun h => hne (by rw [Ob.blk, hB]; simpa using h.symm))) (.inr ⟨g', _, e1, f1, f2, f3⟩) (fun g hg => .inl hg)
  exact this
theorem sort_holds {w0 : World} {B : Option Addr} {T c g : Nat} {l : List Int} (hB : B = some ⟨g, 0, none⟩) (hS : ST w0 (bl [⟨B, T, l.flatMap encI, c * 1⟩]) w0 [⟨B, T, l.flatMap encI, c * 1⟩] []) : Holds (Value.int .i64) w0 g 0 l.toArray ∧ g < w0.heap.size := by
  rcases hS.own _ (List.mem_singleton.2 rfl) with ⟨h1, _⟩ | ⟨g', cur, h1, h2, h3, h4⟩
  · rw [hB] at h1; cases h1
  · rw [hB] at h1
    cases h1
    refine ⟨holds_of_blockI h2 ?_, (Array.getElem?_eq_some_iff.1 h2).1⟩
    have e : l.flatMap encI = l.map (Value.int .i64) := by
      generalize l = k
      induction k with
      | nil => rfl
      | cons a k ih => rw [List.flatMap_cons, List.map_cons, ih]; rfl
    have h4 : l.flatMap encI <+: cur.toList := h4
    rw [e] at h4
    have := List.prefix_iff_eq_take.1 h4
    rw [List.length_map] at this
    exact this.symm
theorem sort_none {w0 : World} {B : Option Addr} {T c : Nat} {l : List Int} (hS : ST w0 (bl [⟨B, T, l.flatMap encI, c * 1⟩]) w0 [⟨B, T, l.flatMap encI, c * 1⟩] []) : l = [] ∨ ∃ g, B = some ⟨g, 0, none⟩ := by
  rcases hS.own _ (List.mem_singleton.2 rfl) with ⟨_, h2, _⟩ | ⟨g', cur, h1, _⟩
  · left
    cases l with
    | nil => rfl
    | cons a l => simp [encI] at h2
  · exact .inr ⟨g', h1⟩
def F_slices_Sort_int_int (x : List Int) : Option (List Int) :=
  chk (x.length < 4611686018427387904) <|
  some (sortI x)
/-- The contract, from what the shelf says. -/
theorem sort_contract {P : Program} {g : FuncId} (h1 : ∀ (blk off cap : Nat) (zs : List Int) (w : World), Holds (Value.int .i64) w blk off zs.toArray → blk < w.heap.size → zs.length < 4611686018427387904 →
    Calls P g #[.slice (some ⟨blk, off, none⟩) zs.length cap] w fun e w' => e = .returned (.tuple #[]) ∧ ∃ n os, w' = grow (putRow (Value.int .i64) (Sort.ahead w n) blk off (zs.mergeSort fun x y => decide (x ≤ y)).toArray) os)
    (h0 : ∀ (p : Option Addr) (cap : Nat) (w : World), Calls P g #[.slice p 0 cap] w fun e w' => e = .returned (.tuple #[]) ∧ w' = w)
    (x : List Int) (T : TypeId) (B : Option Addr) (c n : Nat) (w0 : World) (hn : x.length = n) (hS : ST w0 (bl [⟨B, T, x.flatMap encI, c * 1⟩]) w0 [⟨B, T, x.flatMap encI, c * 1⟩] []) {m : List Int} (hF : F_slices_Sort_int_int x = some m) :
    CV P g #[.slice B n c] w0 (fun v w' => v = .tuple #[] ∧ m.length = n ∧ ST w0 (bl [⟨B, T, x.flatMap encI, c * 1⟩]) w' [⟨B, T, m.flatMap encI, c * 1⟩] []) := by
  subst hn
  obtain ⟨hsz, hm⟩ := chk_inv hF
  obtain rfl := Option.some.inj hm
  rcases sort_none hS with rfl | ⟨blk, hB⟩
  · refine Calls.mono (h0 B c w0) (fun e w' he => ⟨.tuple #[], he.1, rfl, rfl, ?_⟩)
    obtain ⟨_, rfl⟩ := he
    exact hS
  · obtain ⟨hH, hblk⟩ := sort_holds hB hS
    rw [show (Value.slice B x.length c) = .slice (some ⟨blk, 0, none⟩) x.length c by rw [hB]]
    refine Calls.mono (h1 blk 0 c x w0 hH hblk hsz) (fun e w' he => ⟨.tuple #[], he.1, rfl, sortI_len x, ?_⟩)
    obtain ⟨_, k, os, hw⟩ := he
    rw [merge_sortI] at hw
    exact sort_state hB hS hw
end Go.VK
