/- Laws that read package-level variables: from what a variable holds when the call begins to the walks' shapes, and what such a row asks behind the call. Plain lemmas over any program. -/
import Derived.Test.YtkmncijipedjaaaGreatDoorLibL
import Derived.Test.YtkmncijipedjaaaGreatDoorLibH
import Derived.Test.YtkmncijipedjaaaGreatDoorLibK
import Derived.ChangeVars
import Derived.OpenShut
import Derived.MakeChecks
import Derived.LaidLaws
import Derived.Handed
namespace Go.VK
open Go.RowKit Go.WideShapes Go.ChangeShapes Go.Deep
section
variable {H : Type} {enc : TypeId × Value → H} {P : Program} {w : World} {base : Nat} {spare : Nat → Bool} {held : Bool} {T : TypeId} {cs : List Value} {fuel : Nat}
theorem rd_fldx {j off ty s : Nat} {ds : List (DataW H)} {p : List MemPlace} (hF : fieldB P T j off ty = true) (hs : sizeB P ty s = true) (h : DataW.trod enc P w base spare held fuel T cs = some (.agg ds, p)) :
    ∃ n y, ds[j]? = some y.1 ∧ DataW.trod enc P w base spare held n ty ((cs.drop off).take s) = some y := by
  obtain ⟨fs, f, h1, h2, h3, h4⟩ := fieldB_spec hF
  obtain ⟨xs, n, _, e, _, hl, hx⟩ := DataW.trod_struct h1 h
  have := hx j f h2
  rw [h3, h4, cellsOf_of hs] at this
  have hj : j < xs.length := by rw [hl]; exact (Array.getElem?_eq_some_iff.1 h2).1
  rw [List.getElem?_eq_getElem hj] at this
  have hd : ds = xs.map (·.1) := by
    have := congrArg Prod.fst e
    simpa using this
  refine ⟨n, _, ?_, this⟩
  rw [hd, List.getElem?_map, List.getElem?_eq_getElem hj]; rfl
theorem rd_intx {z : Int} {p : List MemPlace} (ht : intB P T .i64 = true) (h : DataW.trod enc P w base spare held fuel T cs = some (.lit (.int .i64 z), p)) : cs = [.int .i64 z] := by
  obtain ⟨n, h1, h2, _⟩ := DataW.trod_int (intB_spec ht) h
  have := congrArg Prod.fst h2
  simp at this
  subst this
  exact h1
theorem rd_arrx {n e : Nat} {l : List Int} {p : List MemPlace} (ha : arrB P T n e = true) (hT : sizeB P T n = true) (he : sizeB P e 1 = true) (hi : intB P e .u8 = true) (h : DataW.trod enc P w base spare held fuel T cs = some (.agg (l.map fun z => .lit (.int .u8 z)), p)) : cs = l.flatMap enc_u8 := by
  obtain ⟨xs, m, _, ex, hl, hn, hx⟩ := DataW.trod_array (arrB_spec ha) h
  rw [cellsOf_of hT] at hl
  have hd : l.map (fun z => (DataW.lit (.int .u8 z) : DataW H)) = xs.map (·.1) := by
    have := congrArg Prod.fst ex
    simpa using this
  have hll : l.length = n := by
    have := congrArg List.length hd
    rw [List.length_map, List.length_map, hn] at this
    exact this
  rw [enc_u8_flat]
  refine List.ext_getElem? fun i => ?_
  rcases Nat.lt_or_ge i n with hin | hin
  · have h1 := hx i hin
    rw [cellsOf_of he, Nat.mul_one, List.getElem?_eq_getElem (by omega)] at h1
    obtain ⟨z, h2, h3, _⟩ := DataW.trod_int (intB_spec hi) h1
    have h4 : (cs.drop i).take 1 = [cs[i]'(by omega)] := by
      rw [List.drop_eq_getElem_cons (by omega)]; rfl
    rw [h4] at h2
    have h5 : (l.map (fun z => (DataW.lit (.int .u8 z) : DataW H)))[i]? = some (.lit (.int .u8 z)) := by
      rw [hd, List.getElem?_map, List.getElem?_eq_getElem (by omega), h3]; rfl
    rw [List.getElem?_map, List.getElem?_eq_getElem (by omega)] at h5
    have h6 : l[i]'(by omega) = z := by
      have := Option.some.inj h5
      simpa using this
    rw [List.getElem?_map, List.getElem?_eq_getElem (by omega), List.getElem?_eq_getElem (show i < l.length by omega), (List.cons.inj h2).1, ← h6]
    rfl
  · rw [List.getElem?_eq_none (by omega), List.getElem?_map, List.getElem?_eq_none (by omega)]; rfl
end
section
variable {H : Type} {enc : TypeId × Value → H} {P : Program}
theorem laidMet_cons {n : String} {d : DataW Unit} {r : List (String × DataW Unit)} {w : World} (h : laidMet P ((n, d) :: r) w) : laidMet P [(n, d)] w ∧ laidMet P r w := by
  obtain ⟨ps, ⟨g, t, cs, fuel, p, q, h1, h2, h3, h4, h5, rfl⟩, hn, hc⟩ := h
  refine ⟨⟨_, ⟨g, t, cs, fuel, p, [], h1, h2, h3, h4, rfl, (List.append_nil _).symm⟩, hn.sublist (List.sublist_append_left _ _), fun b off hp => hc b off (List.mem_append_left _ hp)⟩, ⟨q, h5, hn.sublist (List.sublist_append_right _ _), fun b off hp => hc b off (List.mem_append_right _ hp)⟩⟩
theorem trodVars_two {n1 n2 : String} {spare : Nat → Bool} {w : World} {gs : List (DataW H)} {ps : List MemPlace} (h : DataW.TrodVars enc P w spare [n1, n2] gs ps) : ∃ g1 g2, gs = [g1, g2] := by
  match gs, h with
  | [], h => exact h.elim
  | [_], ⟨_, _, _, _, _, _, _, _, _, _, h, _⟩ => exact h.elim
  | [g1, g2], _ => exact ⟨g1, g2, rfl⟩
  | _ :: _ :: _ :: _, ⟨_, _, _, _, _, _, _, _, _, _, ⟨_, _, _, _, _, _, _, _, _, _, h, _⟩, _⟩ => exact h.elim
/-- The cells of a variable that is laid. -/
theorem laid_cf {n : String} {d : DataW Unit} {w : World} (h : laidMet P [(n, d)] w) {g t : Nat} {cs : List Value} (hg : P.globalNamed n = some g) (ht : ((P.globals[g]?).map (·.type) == some t) = true)
    (hc : ∀ (fuel : Nat) (x : List Value) (p : List MemPlace), DataW.trod (fun _ => ()) P w 0 (fun _ => true) false fuel t x = some (d, p) → x = cs) :
    CF w (some ⟨g, 0, none⟩) cs ∧ (cs ≠ [] → ∀ a, (some ⟨g, 0, none⟩ : Option Addr) = some a → a.block < w.heap.size) := by
  obtain ⟨_, hv, _⟩ := h
  obtain ⟨g', t', c, fuel, p, q, h1, h2, h3, h4, _⟩ := hv
  rw [hg] at h1
  cases h1
  rw [eq_of_beq ht] at h2
  cases h2
  have hcs := hc _ _ _ h4
  have hcell : ∀ j u, cs[j]? = some u → w.cell? ⟨g, j, none⟩ = some u := fun j u hu => by
    rw [World.var?_cell hg h3 j, ← hu, ← hcs]
    simp
  refine ⟨⟨fun _ => rfl, fun j u hu => ?_⟩, fun hne a ha => ?_⟩
  · have := hcell j u hu
    by_cases hj : j = 0
    · subst hj; simpa [ad, Addr.add] using this
    · simpa [ad, Addr.add, hj] using this
  · cases ha
    have hpos : 0 < cs.length := List.length_pos_iff.mpr hne
    have := hcell 0 _ (List.getElem?_eq_getElem hpos)
    have h4 := World.block_lt_of_cell? _ _ this
    simpa using h4
def varsTypedB (P : Program) (ns : List String) : Bool := ns.all fun n => match P.globalNamed n with | some g => ((P.globals[g]?).map (·.type)).any fun t => decide (t < P.types.size) | none => false
theorem vars_carry {w w' : World} (hl : laidOutB P = true) (hm : mapsRowed P = true) (hz : slicesFullB P = true) (hb : Below w.heap.size w w') {sp' : Nat → Bool} : ∀ {ns : List String} {ds : List (DataW H)} {ps : List MemPlace}, varsTypedB P ns = true →
    DataW.TrodVars enc P w (fun _ => true) ns ds ps → (∀ p ∈ ps, p.block < w.heap.size ∧ sp' p.block = true) → DataW.TrodVars enc P w' sp' ns ds ps
  | [], [], _, _, h, _ => h
  | n :: ns, d :: ds, ps, hT, ⟨g, t, cs, fuel, p, q, h1, h2, h3, h4, h5, e⟩, hs => by
    unfold varsTypedB at hT
    rw [List.all_cons, Bool.and_eq_true, h1] at hT
    have ht : t < P.types.size := by
      have := hT.1
      simp only [h2, Option.any_some, decide_eq_true_eq] at this
      exact this
    have hp : ∀ x ∈ p, x.block < w.heap.size ∧ sp' x.block = true := fun x hx => hs x (by rw [e]; exact List.mem_append_left _ (List.mem_append_right _ hx))
    have h3' : w'.var? P n = some cs := by
      unfold World.var? at h3 ⊢
      rw [h1] at h3 ⊢
      simp only [Option.bind_some] at h3 ⊢
      have hlt : g < w.heap.size := by
        rcases Nat.lt_or_ge g w.heap.size with h | h
        · exact h
        · rw [Array.getElem?_eq_none h] at h3; cases h3
      have := hb.block g hlt
      first | rw [this]; exact h3 | rw [← this]; exact h3
    exact ⟨g, t, cs, fuel, p, q, h1, h2, h3', DataW.trod_carry fuel _ _ _ (DataW.trod_respare (kids_rows hl hm) (slices_full_of P hz) fuel t cs.toList (d, p) ht h4 (fun x hx => (hp x hx).2)) (fun x hx => sameAt_of hb (hp x hx).1),
      vars_carry hl hm hz hb hT.2 h5 (fun x hx => hs x (by rw [e]; exact List.mem_append_right _ hx)), e⟩
/-- What a law's row asks behind the call, where the law returned true and made nothing but new memory: a row that reads variables. -/
theorem post_true_v {f : Func} {s : ChangeSpec} {apart fresh handsOn again : Bool} {W W' : World} {args : Array Value} {ds gs : List (DataW H)} {before : List MemPlace} {tb : TypeId}
    (hl : laidOutB P = true) (hm : mapsRowed P = true) (hz : slicesFullB P = true) (hps : f.params.toList.all (fun t => decide (t < P.types.size)) = true) (hr : f.resultTypes = #[tb]) (hb : P.underlying tb = some .bool)
    (hvt : varsTypedB P s.vars = true)
    (hW : DataW.Whole enc P f.params.toList s.vars apart W args.toList ds gs before) (hs : s.fn H (ds ++ gs) = { results := [.lit (.bool true)], args := ds, vars := gs }) {L : List Ob} {R : List Ro} (hST : ST W [] W' L R) :
    s.post enc P f apart fresh handsOn again W args (.bool true) W' := by
  have hlt : ∀ p ∈ before, p.block < W.heap.size := fun p hp => hW.lt p hp
  have hbl := hST.below
  have hW0 := hW
  obtain ⟨p, q, hA, hV, rfl, hfz, hnd⟩ := hW
  have hT : ∀ t ∈ f.params.toList, t < P.types.size := fun t ht => of_decide_eq_true (List.all_eq_true.1 hps t ht)
  have hpl : ∀ x ∈ p, x.block < W.heap.size := fun x hx => hlt x (List.mem_append_left _ hx)
  have hql : ∀ x ∈ q, x.block < W.heap.size := fun x hx => hlt x (List.mem_append_right _ hx)
  have hargs : ∀ sp : Nat → Bool, (∀ x ∈ p, sp x.block = true) → DataW.TrodAll enc P W' 0 sp true f.params.toList args.toList ds p := fun sp hsp =>
    all_carry (hA.respare (kids_rows hl hm) (slices_full_of P hz) hT hsp) (fun x hx => sameAt_of hbl (hpl x hx))
  have hvars : ∀ sp : Nat → Bool, (∀ x ∈ q, sp x.block = true) → DataW.TrodVars enc P W' sp s.vars gs q := fun sp hsp =>
    vars_carry hl hm hz hbl hvt hV (fun x hx => ⟨hql x hx, hsp x hx⟩)
  have hres : ∀ (b : Nat) (sp : Nat → Bool) (hd : Bool), DataW.TrodAll enc P W' b sp hd f.resultTypes.toList ((Value.bool true).resultList f.resultTypes.size) [.lit (.bool true)] [] := fun b sp hd => by
    rw [hr]; exact trodAll_mk1 (shut_bool hb _)
  refine ⟨ds, gs, p ++ q, [], p, q, hW0, by rw [hs]; exact hres _ _ _, by rw [hs]; exact hargs _ (fun x hx => by simpa using hpl x hx), by rw [hs]; exact hvars _ (fun x hx => by simpa using hql x hx), World.keptBut_mono (fun x hx => ⟨hx, Or.inr (by simpa using hx)⟩) (hbl.frame (· ∈ p ++ q)), fun _ => ?_⟩
  refine ⟨ok_one hr rfl (okWide_bool_mk hb _), _, _, ([] ++ p) ++ q, ⟨[] ++ p, q, trodAll_append (hargs _ (fun _ _ => rfl)) (hres _ _ _), hvars _ (fun _ _ => rfl), rfl, ?_, ?_⟩, ?_⟩
  · intro b off hp
    have hin : MemPlace.cell b off ∈ p ++ q := by simpa using hp
    rw [hbl.frozen (hlt _ hin)]
    exact hfz b off hin
  · intro ha
    simpa using hnd ha
  · intro x hx _
    simpa using hx
end
end Go.VK
