/- The library's Compact of a row of whole numbers, as a contract of ours. -/
import Derived.Test.YtmonoeihfeikeaaGreatLibO
import Derived.Shelf.Slices.CompactI
namespace Go.VK
open Go.RowKit Go.Sort Go.Proofs
theorem fm_map (k : List Int) : k.flatMap encI = k.map (Value.int .i64) := by
  induction k with
  | nil => rfl
  | cons a k ih => rw [List.flatMap_cons, List.map_cons, ih]; rfl
theorem compact_c {P : Program} {ρ : Go.Shelf.Ren} {w0 w : World} {M : List Nat} {L : List Ob} {R : List Ro} (L20 : Lays2.n20 P ρ) (g : FuncId) (hg : ρ.f 20 = g) {k n c T : Nat} {B : Option Addr} {l : List Int} (hn : l.length = n) (hle : n ≤ 1099511627776) (hk : L[k]? = some ⟨B, T, l.flatMap encI, c * 1⟩) (hS : ST w0 M w L R) :
    CV P g #[.slice B n c] w (fun v w' => v = .slice B (Go.Lib.compact l).length c ∧ ST w0 M w' (L.set k ⟨B, T, (Go.Lib.compact l).flatMap encI, c * 1⟩) R) := by
  subst hg hn
  cases hl : l with
  | nil =>
    refine Calls.mono (Any.slices_Compact_int_empty L20 B c w) (fun e w' he => ⟨_, he.1, rfl, ?_⟩)
    rw [he.2]
    have e : L.set k ⟨B, T, (Go.Lib.compact ([] : List Int)).flatMap encI, c * 1⟩ = L := by
      rw [hl] at hk
      obtain ⟨hlt, e⟩ := List.getElem?_eq_some_iff.1 hk
      have e2 : (⟨B, T, (Go.Lib.compact ([] : List Int)).flatMap encI, c * 1⟩ : Ob) = L[k] := e.symm
      rw [e2, List.set_getElem_self]
    rw [e]; exact hS
  | cons a t =>
    rw [← hl]
    have hne : l ≠ [] := by rw [hl]; simp
    obtain ⟨blk, cur, hB, hh, hsz, hp⟩ : ∃ g cur, B = some ⟨g, 0, none⟩ ∧ w.heap[g]? = some (.cells cur T (0, 0)) ∧ cur.size = c * 1 ∧ l.flatMap encI <+: cur.toList := by
      rcases hS.own _ (List.mem_of_getElem? hk) with ⟨_, h2, _⟩ | ⟨g', cur, h1, h2, h3, h4⟩
      · rw [hl] at h2; simp [encI] at h2
      · exact ⟨g', cur, h1, h2, h3, h4⟩
    have hcap : l.length ≤ c := by
      have := hp.length_le
      rw [fm_map, List.length_map] at this
      have : l.length ≤ cur.size := by simpa using this
      omega
    have htk : cur.toList.take l.length = l.map (Value.int .i64) := by
      rw [fm_map] at hp
      have := List.prefix_iff_eq_take.1 hp
      rw [List.length_map] at this
      exact this.symm
    have hH : Holds (Value.int .i64) w blk 0 l.toArray := holds_of_blockI hh htk
    rw [show (Value.slice B l.length c) = .slice (some ⟨blk, 0, none⟩) l.length c by rw [hB]]
    refine Calls.mono (Any.slices_Compact_int L20 blk 0 c l w hH (by omega) hcap) (fun e w' he => ⟨_, he.1, by rw [hB], ?_⟩)
    obtain ⟨_, q, hw⟩ := he
    have hcl : (Go.Lib.compact l).length ≤ l.length := by
      unfold Go.Lib.compact Go.Lib.compactUpTo
      rw [List.length_map]
      exact Nat.le_trans (List.length_filter_le _ _) (by simp)
    generalize hz : (Go.Lib.compact l ++ List.replicate (l.length - (Go.Lib.compact l).length) 0) = z at hw
    have hzl : z.length ≤ cur.size := by
      rw [← hz, List.length_append, List.length_replicate]; omega
    have hw2 : w' = grow (putRow (Value.int .i64) (Sort.ahead w q) blk 0 z.toArray) #[] := by rw [hw]; simp only [grow, Array.append_empty]
    have f1 : w'.heap[blk]? = some (.cells (putCells (Value.int .i64) 0 z.toArray cur) T (0, 0)) := by rw [hw2]; exact heap_sortedI _ hh
    have f3 : (Go.Lib.compact l).flatMap encI <+: (putCells (Value.int .i64) 0 z.toArray cur).toList := by
      have ht := take_putCellsI cur z hzl
      have e1 : z.map (Value.int .i64) <+: (putCells (Value.int .i64) 0 z.toArray cur).toList := by rw [← ht]; exact List.take_prefix _ _
      refine List.IsPrefix.trans ?_ e1
      rw [fm_map, ← hz, List.map_append]
      exact List.prefix_append _ _
    have gb : w.grownBy w' (some blk) := by rw [hw2]; exact grownBy_sortedI _
    obtain ⟨b1, b2, b3, b4, b5⟩ := gb
    exact hS.step1 (w' := w') (i := k) (o' := ⟨B, T, (Go.Lib.compact l).flatMap encI, c * 1⟩) hk b1 b2 b3 b4 (fun j hj hne => b5 j hj (fun h => hne (by rw [Ob.blk, hB]; simpa using h.symm))) (.inr ⟨blk, _, hB, f1, by simp [putCells, hsz], f3⟩) (fun g hg => .inl hg)
end Go.VK
