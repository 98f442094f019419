/- From a row's reading of its arguments to the walks' shapes, and from the world behind the walk to what the row asks. Plain lemmas over any program. -/
import Derived.Test.YthmigddkloimaaaGreatDoorLibK
import Derived.ProofKit
import Derived.ReadAgain
import Derived.Below
import Derived.ChangeSame
import Derived.Deep.Slices
namespace Go.VK
open Go.RowKit Go.WideShapes Go.ChangeShapes Go.Deep


section
variable {H : Type} {enc : TypeId × Value → H} {P : Program} {w : World} {base : Nat} {spare : Nat → Bool} {held : Bool} {T e : TypeId} {cs : List Value} {x : DataW H × List MemPlace} {fuel : Nat}

theorem ro_cons {B : Option Addr} {cs : List Value} {R : List Ro} (h : CF w B cs ∧ (cs ≠ [] → ∀ a, B = some a → a.block < w.heap.size)) (hR : ∀ r ∈ R, CF w r.B r.cs ∧ (r.cs ≠ [] → ∀ a, r.B = some a → a.block < w.heap.size)) :
    ∀ r ∈ (⟨B, cs⟩ :: R : List Ro), CF w r.B r.cs ∧ (r.cs ≠ [] → ∀ a, r.B = some a → a.block < w.heap.size) := by
  intro r hr
  rcases List.mem_cons.mp hr with rfl | hr
  · exact h
  · exact hR r hr
theorem cellsOf_of {s : Nat} (h : sizeB P T s = true) : P.cellsOf T = s := by
  obtain ⟨i, hi, hs⟩ := sizeB_spec h
  simp [Program.cellsOf, hi, hs]
theorem rd_int (ht : intB P T .i64 = true) (h : DataW.trod enc P w base spare held fuel T cs = some x) : ∃ n, cs = [.int .i64 n] ∧ I64 n := by
  obtain ⟨n, h1, _, h3⟩ := DataW.trod_int (intB_spec ht) h
  refine ⟨n, h1, ?_⟩
  simpa [Lit.wf, IntKind.min, IntKind.max, IntKind.signed, IntKind.bits, I64] using h3
theorem rd_str (ht : strB P T = true) (h : DataW.trod enc P w base spare held fuel T cs = some x) : ∃ y, cs = [.string (bstr y)] ∧ SL y := by
  obtain ⟨s, h1, _, h3⟩ := DataW.trod_string (strB_spec ht) h
  refine ⟨s.data.toList, by rw [h1]; rfl, ?_⟩
  have : maxLen = 9223372036854775807 := rfl
  have h4 : s.data.toList.length = s.size := Array.length_toList
  show s.data.toList.length ≤ _
  omega
theorem rd_fld {j off ty s : Nat} (hF : fieldB P T j off ty = true) (hs : sizeB P ty s = true) (h : DataW.trod enc P w base spare held fuel T cs = some x) :
    ∃ n y, DataW.trod enc P w base spare held n ty ((cs.drop off).take s) = some y := by
  obtain ⟨fs, f, h1, h2, h3, h4⟩ := fieldB_spec hF
  obtain ⟨xs, n, _, _, _, hl, hx⟩ := DataW.trod_struct h1 h
  have := hx j f h2
  rw [h3, h4, cellsOf_of hs] at this
  have hj : j < xs.length := by rw [hl]; exact (Array.getElem?_eq_some_iff.1 h2).1
  rw [List.getElem?_eq_getElem hj] at this
  exact ⟨n, _, this⟩
theorem rd_len {j off ty s : Nat} (hF : fieldB P T j off ty = true) (hs : sizeB P T s = true) (h : DataW.trod enc P w base spare held fuel T cs = some x) : cs.length = s := by
  obtain ⟨fs, f, h1, _⟩ := fieldB_spec hF
  obtain ⟨_, _, _, _, hl, _⟩ := DataW.trod_struct h1 h
  rw [hl, cellsOf_of hs]
theorem seg_step {off s t : Nat} {v r : List Value} (h : (cs.drop off).take s = v) (ht : off + s = t) (hr : cs.drop t = r) : cs.drop off = v ++ r := by
  subst ht
  rw [← h, ← hr, ← List.drop_drop, List.take_append_drop]
theorem seg_end {n : Nat} (h : cs.length = n) : cs.drop n = [] := by rw [← h]; exact List.drop_length
end
section
variable {H : Type} {enc : TypeId × Value → H} {P : Program}
theorem all_carry {w w' : World} {base : Nat} {spare : Nat → Bool} {held : Bool} : ∀ {ts : List TypeId} {vs : List Value} {ds : List (DataW H)} {ps : List MemPlace}, DataW.TrodAll enc P w base spare held ts vs ds ps → (∀ p ∈ ps, w.sameAt w' p) →
    DataW.TrodAll enc P w' base spare held ts vs ds ps
  | [], [], [], _, h, _ => h
  | _ :: _, _ :: _, _ :: _, _, ⟨p, q, ⟨n, h1⟩, h2, e⟩, hs =>
    ⟨p, q, ⟨n, DataW.trod_carry n _ _ _ h1 (fun x hx => hs x (by rw [e]; exact List.mem_append_left _ hx))⟩, all_carry h2 (fun x hx => hs x (by rw [e]; exact List.mem_append_right _ hx)), e⟩
theorem ST.below {w w' : World} {L : List Ob} {R : List Ro} (h : ST w [] w' L R) : Below w.heap.size w w' := ⟨h.os, h.tape, h.output, h.size, fun k hk => h.frame k hk (by simp)⟩
theorem sameAt_of {w w' : World} (hb : Below w.heap.size w w') {p : MemPlace} (hp : p.block < w.heap.size) : w.sameAt w' p := by
  cases p with
  | cell b off => exact World.cell?_of_block (hb.block b hp)
  | map b => exact hb.block b hp
def slicesFullB (P : Program) : Bool := (List.range P.types.size).all fun t => match P.underlying t with | some (.slice e) => decide (0 < P.cellsOf e) | _ => true
end
end Go.VK
