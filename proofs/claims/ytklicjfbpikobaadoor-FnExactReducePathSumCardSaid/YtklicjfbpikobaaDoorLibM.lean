/- Laws that read package-level variables: from what a variable holds when the call begins to the walks' shapes, and what such a row asks behind the call. Plain lemmas over any program. -/
import Derived.Test.YtklicjfbpikobaaDoorLibL
import Derived.Test.YtklicjfbpikobaaDoorLibH
import Derived.Test.YtklicjfbpikobaaDoorLibK
import Derived.ChangeVars
import Derived.OpenShut
import Derived.MakeChecks
import Derived.LaidLaws
import Derived.Handed
namespace Go.VK
open Go.RowKit Go.WideShapes Go.ChangeShapes Go.Deep
section
variable {H : Type} {enc : TypeId × Value → H} {P : Program} {w : World} {base : Nat} {spare : Nat → Bool} {held : Bool} {T : TypeId} {cs : List Value} {fuel : Nat}
theorem rd_arrx {n e : Nat} {l : List Int} {p : List MemPlace} (ha : arrB P T n e = true) (hT : sizeB P T n = true) (he : sizeB P e 1 = true) (hi : intB P e .u8 = true) (h : DataW.trod enc P w base spare held fuel T cs = some (.agg (l.map fun z => .lit (.int .u8 z)), p)) : cs = l.flatMap enc_u8 := by
  obtain ⟨xs, m, _, ex, hl, hn, hx⟩ := DataW.trod_array (arrB_spec ha) h
  rw [cellsOf_of hT] at hl
  have hd : l.map (fun z => (DataW.lit (.int .u8 z) : DataW H)) = xs.map (·.1) := by
    have := congrArg Prod.fst ex
    simpa using this
  have hll : l.length = n := by
    have := congrArg List.length hd
    rw [List.length_map, List.length_map, hn] at this
    exact this
  rw [enc_u8_flat]
  refine List.ext_getElem? fun i => ?_
  rcases Nat.lt_or_ge i n with hin | hin
  · have h1 := hx i hin
    rw [cellsOf_of he, Nat.mul_one, List.getElem?_eq_getElem (by omega)] at h1
    obtain ⟨z, h2, h3, _⟩ := DataW.trod_int (intB_spec hi) h1
    have h4 : (cs.drop i).take 1 = [cs[i]'(by omega)] := by
      rw [List.drop_eq_getElem_cons (by omega)]; rfl
    rw [h4] at h2
    have h5 : (l.map (fun z => (DataW.lit (.int .u8 z) : DataW H)))[i]? = some (.lit (.int .u8 z)) := by
      rw [hd, List.getElem?_map, List.getElem?_eq_getElem (by omega), h3]; rfl
    rw [List.getElem?_map, List.getElem?_eq_getElem (by omega)] at h5
    have h6 : l[i]'(by omega) = z := by
      have := Option.some.inj h5
      simpa using this
    rw [List.getElem?_map, List.getElem?_eq_getElem (by omega), List.getElem?_eq_getElem (show i < l.length by omega), (List.cons.inj h2).1, ← h6]
    rfl
  · rw [List.getElem?_eq_none (by omega), List.getElem?_map, List.getElem?_eq_none (by omega)]; rfl
end
section
variable {H : Type} {enc : TypeId × Value → H} {P : Program}
theorem laidMet_cons {n : String} {d : DataW Unit} {r : List (String × DataW Unit)} {w : World} (h : laidMet P ((n, d) :: r) w) : laidMet P [(n, d)] w ∧ laidMet P r w := by
  obtain ⟨ps, ⟨g, t, cs, fuel, p, q, h1, h2, h3, h4, h5, rfl⟩, hn, hc⟩ := h
  refine ⟨⟨_, ⟨g, t, cs, fuel, p, [], h1, h2, h3, h4, rfl, (List.append_nil _).symm⟩, hn.sublist (List.sublist_append_left _ _), fun b off hp => hc b off (List.mem_append_left _ hp)⟩, ⟨q, h5, hn.sublist (List.sublist_append_right _ _), fun b off hp => hc b off (List.mem_append_right _ hp)⟩⟩
theorem laid_cf {n : String} {d : DataW Unit} {w : World} (h : laidMet P [(n, d)] w) {g t : Nat} {cs : List Value} (hg : P.globalNamed n = some g) (ht : ((P.globals[g]?).map (·.type) == some t) = true)
    (hc : ∀ (fuel : Nat) (x : List Value) (p : List MemPlace), DataW.trod (fun _ => ()) P w 0 (fun _ => true) false fuel t x = some (d, p) → x = cs) :
    CF w (some ⟨g, 0, none⟩) cs ∧ (cs ≠ [] → ∀ a, (some ⟨g, 0, none⟩ : Option Addr) = some a → a.block < w.heap.size) := by
  obtain ⟨_, hv, _⟩ := h
  obtain ⟨g', t', c, fuel, p, q, h1, h2, h3, h4, _⟩ := hv
  rw [hg] at h1
  cases h1
  rw [eq_of_beq ht] at h2
  cases h2
  have hcs := hc _ _ _ h4
  have hcell : ∀ j u, cs[j]? = some u → w.cell? ⟨g, j, none⟩ = some u := fun j u hu => by
    rw [World.var?_cell hg h3 j, ← hu, ← hcs]
    simp
  refine ⟨⟨fun _ => rfl, fun j u hu => ?_⟩, fun hne a ha => ?_⟩
  · have := hcell j u hu
    by_cases hj : j = 0
    · subst hj; simpa [ad, Addr.add] using this
    · simpa [ad, Addr.add, hj] using this
  · cases ha
    have hpos : 0 < cs.length := List.length_pos_iff.mpr hne
    have := hcell 0 _ (List.getElem?_eq_getElem hpos)
    have h4 := World.block_lt_of_cell? _ _ this
    simpa using h4
end
end Go.VK
