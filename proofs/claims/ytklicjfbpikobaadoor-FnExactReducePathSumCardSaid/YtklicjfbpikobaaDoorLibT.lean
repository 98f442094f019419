/- A range over a map of ours, and a sort by a function. Plain lemmas over any program. -/
import Derived.Test.YtklicjfbpikobaaDoorLibS
import Derived.Maps.RangeRun
import Derived.Shelf.SlSortCmp.NoneTotal
namespace Go.VK
open Go.RowKit

section
variable {P : Program} {n : Nat} {f : Nat → Value} {w0 w : World} {M : List Nat} {L L' : List Ob} {R : List Ro} {o : Oper} {T kt et : TypeId} {x y z : Operand} {g r i j : Nat}
theorem ST.obj (hS : ST w0 M w L R) {ob : Obj} (hi : L[i]? = some ⟨some ⟨g, 0, none⟩, .ob ob, [], 0⟩) : w.heap[g]? = some ob := by
  rcases hS.own _ (List.mem_of_getElem? hi) with ⟨h, _⟩ | ⟨_, h, _⟩ | ⟨l, h, _⟩ | ⟨x, h, _, _, g', h1, h2⟩
  · cases h
  · cases h
  · cases h
  · simp only [Kd.ob.injEq] at h
    subst h
    simp only [Option.some.injEq, Addr.mk.injEq] at h1
    obtain ⟨rfl, _⟩ := h1
    exact h2
theorem ST.mapOut (hS : ST w0 M w L R) {lv : List (Value × Value)} (hi : L[i]? = some ⟨some ⟨g, 0, none⟩, .mp lv, [], 0⟩) : ∃ es ck, MapIs es ck lv ∧ ST w0 M w (L.set i ⟨some ⟨g, 0, none⟩, .ob (.map es ck), [], 0⟩) R := by
  obtain ⟨es, ck, hw, h⟩ := hS.map hi
  exact ⟨es, ck, h, hS.step1 hi rfl rfl rfl (Nat.le_refl _) (fun _ _ _ => rfl) (.inr (.inr (.inr ⟨_, rfl, rfl, rfl, g, rfl, hw⟩))) (fun _ hg => .inl hg)⟩
theorem ST.mapIn (hS : ST w0 M w L R) {lv : List (Value × Value)} {es : Array MapEntry} {ck : Nat} (hi : L[i]? = some ⟨some ⟨g, 0, none⟩, .ob (.map es ck), [], 0⟩) (h : MapIs es ck lv) (hL : L.set i ⟨some ⟨g, 0, none⟩, .mp lv, [], 0⟩ = L') : ST w0 M w L' R := by
  subst hL
  have hw := hS.obj hi
  exact hS.step1 hi rfl rfl rfl (Nat.le_refl _) (fun _ _ _ => rfl) (.inr (.inr (.inl ⟨_, rfl, rfl, rfl, g, es, ck, rfl, hw, h⟩))) (fun _ hg => .inl hg)
theorem ST.allocO (hS : ST w0 M w L R) (ob : Obj) : ST w0 M (w.alloc ob) (L ++ [⟨some ⟨w.heap.size, 0, none⟩, .ob ob, [], 0⟩]) R := by
  have hb : ∀ k, k < w.heap.size → (w.alloc ob).heap[k]? = w.heap[k]? := fun k hk => Below.heap_alloc w _ k hk
  refine ⟨hS.os, hS.tape, hS.output, Nat.le_trans hS.size (by simp), ?_, ?_, ?_, ?_, ?_, ?_⟩
  · intro k hk hm
    rw [hb k (Nat.lt_of_lt_of_le hk hS.size)]
    exact hS.frame k hk hm
  · intro x hx
    rcases List.mem_append.1 hx with hx | hx
    · exact (hS.own x hx).of_block (fun g hg => hb g ((hS.own x hx).lt hg))
    · simp only [List.mem_singleton] at hx
      subst hx
      exact .inr (.inr (.inr ⟨ob, rfl, rfl, rfl, w.heap.size, rfl, heap_alloc_new w _⟩))
  · intro x hx g hg
    rcases List.mem_append.1 hx with hx | hx
    · exact hS.home x hx g hg
    · simp only [List.mem_singleton] at hx
      subst hx
      simp [Ob.blk] at hg
      subst hg
      exact .inr hS.size
  · rw [List.pairwise_append]
    refine ⟨hS.apart, by simp, fun x hx y hy g hg => ?_⟩
    simp only [List.mem_singleton] at hy
    subst hy
    have := (hS.own x hx).lt hg
    simp [Ob.blk]
    omega
  · intro r hr
    exact (hS.ro r hr).of_block (fun hne a ha => hb _ (hS.roblk r hr hne a ha).1)
  · intro r hr hne a ha
    obtain ⟨hlt, hno⟩ := hS.roblk r hr hne a ha
    refine ⟨by simp; omega, fun x hx => ?_⟩
    rcases List.mem_append.1 hx with hx | hx
    · exact hno x hx
    · simp only [List.mem_singleton] at hx
      subst hx
      simp [Ob.blk]
      omega
theorem Ys_range (hS : ST w0 M w L R) {lv : List (Value × Value)} (hm : mapB P T kt et = true) (ho : o.op = .range T x) (hx : ev n f x = .map (some g)) (hi : L[i]? = some ⟨some ⟨g, 0, none⟩, .mp lv, [], 0⟩) :
    Ys P n f w o (fun v w' => ∃ r es ck, v = .pointer (some ⟨r, 0, none⟩) ∧ MapIs es ck lv ∧ ST w0 M w' (L.set i ⟨some ⟨g, 0, none⟩, .ob (.map es ck), [], 0⟩ ++ [⟨some ⟨r, 0, none⟩, .ob (.mapIter (some g) ck #[] ck), [], 0⟩]) R) := by
  obtain ⟨es, ck, hM, hS'⟩ := hS.mapOut hi
  have hw : w.heap[g]? = some (.map es ck) := by
    have hil : i < L.length := (List.getElem?_eq_some_iff.1 hi).1
    exact hS'.obj (i := i) (by rw [List.getElem?_set_self hil])
  refine ⟨_, _, .inl ?_, w.heap.size, es, ck, rfl, hM, hS'.allocO _⟩
  unfold execOp; rw [ho]
  simp [hx, run_range_map w T kt et g es ck (mapB_spec hm) hw]
theorem ST.obSet (hS : ST w0 M w L R) {ob ob' : Obj} (hi : L[i]? = some ⟨some ⟨g, 0, none⟩, .ob ob, [], 0⟩) : ST w0 M { w with heap := w.heap.setIfInBounds g ob' } (L.set i ⟨some ⟨g, 0, none⟩, .ob ob', [], 0⟩) R := by
  have hw := hS.obj hi
  have hlt : g < w.heap.size := (Array.getElem?_eq_some_iff.1 hw).1
  refine hS.step1 hi rfl rfl rfl (by simp) (fun k _ hk => ?_) ?_ (fun g' hg' => .inl hg')
  · show (w.heap.setIfInBounds g _)[k]? = _
    rw [Array.getElem?_setIfInBounds, if_neg (fun e => hk (by simp [Ob.blk, e]))]
  · refine .inr (.inr (.inr ⟨ob', rfl, rfl, rfl, g, rfl, ?_⟩))
    show (w.heap.setIfInBounds g _)[g]? = _
    rw [Array.getElem?_setIfInBounds]; simp [hlt]
theorem Ys_next (hS : ST w0 M w L R) {es : Array MapEntry} {ck since c0 : Nat} {seen : Array Nat} (ho : o.op = .next x false) (hx : ev n f x = .pointer (some ⟨r, 0, none⟩))
    (hi : L[i]? = some ⟨some ⟨g, 0, none⟩, .ob (.map es ck), [], 0⟩) (hj : L[j]? = some ⟨some ⟨r, 0, none⟩, .ob (.mapIter (some g) since seen c0), [], 0⟩) (hold : ∀ e ∈ es.toList, e.born < since) (hsc : since ≤ c0) :
    Ys P n f w o (fun v w' => (v = .tuple #[.bool false] ∧ (leftOf es seen).size = 0 ∧ ST w0 M w' L R) ∨
      ∃ e ∈ (leftOf es seen).toList, v = .tuple #[.bool true, e.key, e.val] ∧ ST w0 M w' (L.set j ⟨some ⟨r, 0, none⟩, .ob (.mapIter (some g) since (seen.push e.born) ck), [], 0⟩) R) := by
  rcases run_next_at (P := P) w o.type r g since c0 seen es ck (hS.obj hj) (hS.obj hi) hold hsc with ⟨h0, hr⟩ | ⟨e, he, w1, hal, hr⟩
  · refine ⟨_, w, .inl ?_, .inl ⟨rfl, h0, hS⟩⟩
    unfold execOp; rw [ho]
    simp [hx, hr]
  · have hS1 : ST w0 M w1 L R := by rcases hal with rfl | rfl; exact hS; exact hS.drew
    refine ⟨_, ChangeMaps.setBlock w1 r (.mapIter (some g) since (seen.push e.born) ck), .inl ?_, .inr ⟨e, he, rfl, hS1.obSet hj⟩⟩
    unfold execOp; rw [ho]
    simp [hx, hr]
theorem Y_entry (hS : ST w0 M w L R) {es : Array MapEntry} {ck since : Nat} {seen : Array Nat} {e : MapEntry} (ho : o.op = .entry x) (hx : ev n f x = .pointer (some ⟨r, 0, none⟩))
    (hi : L[i]? = some ⟨some ⟨g, 0, none⟩, .ob (.map es ck), [], 0⟩) (hj : L[j]? = some ⟨some ⟨r, 0, none⟩, .ob (.mapIter (some g) since (seen.push e.born) ck), [], 0⟩) (he : e ∈ es.toList) (hn : (es.toList.map (·.born)).Nodup) : Y P n f w o (.tuple #[e.key, e.val]) := by
  unfold Y execOp; rw [ho]
  simp [hx, run_entry_at (P := P) w r g since seen es ck e (hS.obj hj) (hS.obj hi) he hn]
end

section
open Go.Sort Go.Proofs Go.Shelf Go.Lib
theorem flatK_list {α : Type} [Inhabited α] {enc : α → List Value} {k : Nat} (hk : ∀ x, (enc x).length = k) (d : Array α) : (flatK enc k d).toList = d.toList.flatMap enc := by
  apply List.ext_getElem?
  intro t
  by_cases ht : t < d.size * k
  · have k0 : 0 < k := by rcases Nat.eq_zero_or_pos k with h | h; · subst h; simp at ht
                          · exact h
    have hq : t / k < d.size := Nat.div_lt_of_lt_mul (by rw [Nat.mul_comm]; exact ht)
    have h1 : (flatK enc k d).toList[t]? = some ((enc d[t / k]!)[t % k]!) := by
      rw [Array.getElem?_toList, Array.getElem?_eq_getElem (by simpa using ht)]
      have := get_flatK enc k d t ht
      rw [getElem!_pos _ t (by simpa using ht)] at this
      rw [this]
    have hm : t % k < (enc d[t / k]!).length := by rw [hk]; exact Nat.mod_lt _ k0
    have h2 : (d.toList.flatMap enc)[(t / k) * k + t % k]? = some ((enc d[t / k]!)[t % k]!) := by
      refine fm_at hk (by simpa using hq) default ?_
      have e : d.toList.getD (t / k) default = d[t / k]! := by
        rw [List.getD_eq_getElem?_getD, Array.getElem?_toList, Array.getElem?_eq_getElem hq, Option.getD_some, getElem!_pos d _ hq]
      rw [e, List.getElem?_eq_getElem hm, getElem!_pos (enc d[t / k]!) (t % k) hm]
    rw [h1, ← h2]
    congr 1
    have := Nat.div_add_mod t k
    rw [Nat.mul_comm] at this; first | exact this | exact this.symm
  · rw [List.getElem?_eq_none (by simp; omega), List.getElem?_eq_none (by rw [fm_len hk]; simp; omega)]
theorem holds_id {w : World} {g : Nat} {cur : Array Value} {e : TypeId} {vs : List Value} (hb : w.heap[g]? = some (.cells cur e (0, 0))) (hp : vs <+: cur.toList) : Holds id w g 0 vs.toArray := by
  intro j hj
  have hj' : j < vs.length := by simpa using hj
  refine ⟨?_, by simp [World.frozen?, hb]⟩
  obtain ⟨t, ht⟩ := hp
  have h1 : cur.toList[j]? = some vs[j] := by rw [← ht, List.getElem?_append_left hj', List.getElem?_eq_getElem hj']
  simp only [World.cell?, hb, Nat.zero_add]
  simp only [Option.isSome_none, Bool.false_eq_true, if_false]
  rw [← Array.getElem?_toList, h1]
  simp [hj']
theorem heap_put {w : World} {g n : Nat} {os : Array Obj} {cur : Array Value} {e : TypeId} {fr : Nat × Nat} (d : Array Value) (hb : w.heap[g]? = some (.cells cur e fr)) :
    (grow (putRow id (Sort.ahead w n) g 0 d) os).heap[g]? = some (.cells (putCells id 0 d cur) e fr) := by
  have hg : g < w.heap.size := (Array.getElem?_eq_some_iff.1 hb).1
  rw [heap_grow_old _ _ (by simpa using hg)]
  simp [putRow, mapBlock, Sort.ahead, Array.getElem?_modify, hb, onCells]
theorem grownBy_put {w : World} {g n : Nat} {os : Array Obj} (d : Array Value) : w.grownBy (grow (putRow id (Sort.ahead w n) g 0 d) os) (some g) := by
  refine ⟨rfl, rfl, rfl, by simp, fun k hk hne => ?_⟩
  rw [heap_grow_old _ _ (by simpa using hk)]
  have : g ≠ k := fun e => hne (by rw [e])
  simp [putRow, mapBlock, Sort.ahead, Array.getElem?_modify, this]
theorem put_prefix (cur : Array Value) (vs : List Value) (h : vs.length ≤ cur.size) : vs <+: (putCells id 0 vs.toArray cur).toList := by
  rw [List.prefix_iff_eq_take]
  apply List.ext_getElem?
  intro j
  by_cases hj : j < vs.length
  · rw [List.getElem?_take_of_lt hj, Array.getElem?_toList]
    simp [putCells, hj, show j < cur.size by omega]
  · rw [List.getElem?_take_eq_none (by omega), List.getElem?_eq_none (by omega)]
theorem sortf_c {P : Program} {ρ : Ren} {w0 w : World} {M : List Nat} {L : List Ob} {R : List Ro} (L6 : SlLaysF0.n6 P ρ) (fid : FuncId) (hρ : ρ.f 6 = fid) {β : Type} {encB : β → List Value} {key : β → Int} {s : Nat} (hlen : ∀ x, (encB x).length = s) (hs0 : s ≠ 0) (hone : ∀ x, one (encB x) = true)
    (aE : ∀ w, (isAgg (ρ.t 24)).run P w = .ok true w) (zE : ∀ w, (Go.sizeOf (ρ.t 24)).run P w = .ok s w) (gc : Nat) (eg : ∀ args w, (callFunc gc args).run P w = .ok (.enter gc args) w)
    (hcl : ∀ x y (W : World), Calls P gc #[.agg (encB x).toArray, .agg (encB y).toArray] W fun e w' => e = .returned (.int .i64 (IntKind.i64.wrap (key x - key y))) ∧ ∃ q os', w' = grow (W.drewN q) os')
    {l : List β} (hr : ∀ x ∈ l, 0 ≤ key x ∧ key x < 4611686018427387904) (hd : l.Pairwise fun a b => key a ≠ key b) (hL : l.length < 4611686018427387904) {k n c : Nat} {T : TypeId} {B : Option Addr} (hn : l.length = n)
    (hk : L[k]? = some ⟨B, T, l.flatMap encB, c * s⟩) (hS : ST w0 M w L R) :
    CV P fid #[.slice B n c, .func (.func gc) #[] #[]] w (fun v w' => v = .tuple #[] ∧ ST w0 M w' (L.set k ⟨B, T, (l.mergeSort fun a b => decide (key a ≤ key b)).flatMap encB, c * s⟩) R) := by
  subst hρ hn
  cases hl : l with
  | nil =>
    refine Calls.mono (AnyF.slices_SortFunc_none L6 B c _ w) (fun e w' he => ⟨_, he.1, rfl, ?_⟩)
    rw [he.2]
    have e : L.set k ⟨B, T, (([] : List β).mergeSort fun a b => decide (key a ≤ key b)).flatMap encB, c * s⟩ = L := by
      rw [hl] at hk
      obtain ⟨hlt, e⟩ := List.getElem?_eq_some_iff.1 hk
      have e2 : (⟨B, T, (([] : List β).mergeSort fun a b => decide (key a ≤ key b)).flatMap encB, c * s⟩ : Ob) = L[k] := by rw [e, List.mergeSort_nil]
      rw [e2, List.set_getElem_self]
    rw [e]; exact hS
  | cons a t =>
    rw [← hl]
    have ha : a ∈ l := by rw [hl]; exact .head _
    let α := { x : β // x ∈ l }
    haveI : Inhabited α := ⟨⟨a, ha⟩⟩
    let enc : α → List Value := fun x => encB x.1
    let cf : α → α → Int := fun x y => key x.1 - key y.1
    have hlt : ∀ x y : α, ltOf cf x y = decide (key x.1 < key y.1) := fun x y => by
      show decide (key x.1 - key y.1 < 0) = _
      congr 1; exact propext ⟨fun h => by omega, fun h => by omega⟩
    have hO : SWO (ltOf cf) := ⟨fun x => by rw [hlt]; simp, fun x y z h1 h2 => by rw [hlt] at *; simp at *; omega, fun x y z h1 h2 => by rw [hlt] at *; simp at *; omega⟩
    have hinj : ∀ x ∈ l, ∀ y ∈ l, key x = key y → x = y := fun x hx y hy h => by
      obtain ⟨i, hi, rfl⟩ := List.getElem_of_mem hx
      obtain ⟨j, hj, rfl⟩ := List.getElem_of_mem hy
      have hp := List.pairwise_iff_getElem.1 hd
      rcases Nat.lt_trichotomy i j with h' | h' | h'
      · exact absurd h (hp i j hi hj h')
      · subst h'; rfl
      · exact absurd h.symm (hp j i hj hi h')
    have hT : ∀ x y : α, ltOf cf x y = false → ltOf cf y x = false → x = y := fun x y h1 h2 => by
      rw [hlt] at h1 h2
      simp at h1 h2
      exact Subtype.ext (hinj _ x.2 _ y.2 (by omega))
    have hcmp : ∀ (blk off size : Nat) (w : World), CmpLays P gc #[] enc s cf blk off size w := fun blk off size w m os dk _ x y => by
      have h := hcl x.1 y.1 (sortWorldK enc s w blk off m dk os)
      have hx := hr _ x.2; have hy := hr _ y.2
      rw [show IntKind.i64.wrap (key x.1 - key y.1) = key x.1 - key y.1 by rw [IntKind.wrap_i64]; omega] at h
      exact h
    obtain ⟨blk, cur, hB, hh, hsz, hp⟩ : ∃ g cur, B = some ⟨g, 0, none⟩ ∧ w.heap[g]? = some (.cells cur T (0, 0)) ∧ cur.size = c * s ∧ l.flatMap encB <+: cur.toList := by
      rcases (hS.own _ (List.mem_of_getElem? hk)).ty rfl with ⟨h1, h2, h3⟩ | ⟨g', cur, h1, h2, h3, h4⟩
      · exfalso
        have := congrArg List.length (show l.flatMap encB = [] from h2)
        rw [fm_len hlen, hl] at this
        simp only [List.length_cons, List.length_nil] at this
        rcases Nat.mul_eq_zero.1 this with h | h
        · omega
        · exact hs0 h
      · exact ⟨g', cur, h1, h2, h3, h4⟩
    let d : Array α := l.attach.toArray
    have hds : d.size = l.length := by show l.attach.toArray.size = _; rw [List.size_toArray, List.length_attach]
    have hle : ∀ x : α, (enc x).length = s := fun x => hlen x.1
    have hdl : d.toList.flatMap enc = l.flatMap encB := by
      show l.attach.flatMap (fun x => encB x.1) = _
      rw [← List.flatMap_map (f := Subtype.val), List.attach_map_subtype_val]
    have hfl : (flatK enc s d) = (l.flatMap encB).toArray := by
      apply Array.ext'
      rw [flatK_list (enc := enc) hle, hdl]
    have hH : HoldsK enc s w blk 0 d := by
      unfold HoldsK; rw [hfl]; exact holds_id hh hp
    have hblk : blk < w.heap.size := (Array.getElem?_eq_some_iff.1 hh).1
    have hc := AnyQ.slices_SortFunc_total L6 s aE zE enc (fun x => hlen x.1) (fun x v hv => List.all_eq_true.1 (hone x.1) v hv) cf hO gc #[] blk 0 c d w eg (hcmp blk 0 d.size w) hH hblk (by omega) hT
    rw [hds] at hc
    rw [show (Value.slice B l.length c) = .slice (some ⟨blk, 0, none⟩) l.length c by rw [hB]]
    refine Calls.mono hc (fun e w' he => ⟨_, he.1, rfl, ?_⟩)
    obtain ⟨_, q, os, hw⟩ := he
    generalize hz : (d.toList.mergeSort fun x y => !(ltOf cf) y x) = z at hw
    have hzl : z.flatMap enc = (l.mergeSort fun a b => decide (key a ≤ key b)).flatMap encB := by
      have h1 : z.map Subtype.val = l.mergeSort fun a b => decide (key a ≤ key b) := by
        rw [← hz]
        have := List.map_mergeSort (f := Subtype.val) (r := fun x y : α => !(ltOf cf) y x) (s := fun a b => decide (key a ≤ key b)) (l := l.attach) (fun x _ y _ => by
          rw [hlt]
          by_cases h : key x.1 ≤ key y.1
          · have : ¬ key y.1 < key x.1 := by omega
            simp [h, this]
          · have : key y.1 < key x.1 := by omega
            simp [h, this])
        rw [List.attach_map_subtype_val] at this
        exact this
      rw [← h1, List.flatMap_map]
    have hfz : flatK enc s z.toArray = ((l.mergeSort fun a b => decide (key a ≤ key b)).flatMap encB).toArray := by
      apply Array.ext'
      rw [flatK_list (enc := enc) hle, ← hzl]
    have hlen2 : ((l.mergeSort fun a b => decide (key a ≤ key b)).flatMap encB).length ≤ cur.size := by
      have := hp.length_le
      rw [fm_len hlen] at this ⊢
      rw [List.length_mergeSort]
      simpa using this
    have hw2 : w' = grow (putRow id (Sort.ahead w q) blk 0 ((l.mergeSort fun a b => decide (key a ≤ key b)).flatMap encB).toArray) os := by rw [hw]; unfold sortWorldK putRowK; rw [hfz]
    obtain ⟨b1, b2, b3, b4, b5⟩ : w.grownBy w' (some blk) := by rw [hw2]; exact grownBy_put _
    exact hS.step1 (w' := w') (i := k) (o' := ⟨B, T, _, c * s⟩) hk b1 b2 b3 b4 (fun j hj hne => b5 j hj (fun h => hne (by rw [Ob.blk, hB]; simpa using h.symm)))
      (.ofC rfl ⟨blk, _, hB, by rw [hw2]; exact heap_put _ hh, by simp [putCells, hsz], put_prefix cur _ hlen2⟩) (fun g hg => .inl hg)
end

def enK (e : MapEntry) : Int := match e.key with | .int _ a => a | _ => 0
def enV (e : MapEntry) : Int := match e.val with | .int _ a => a | _ => 0
section
variable {es : Array MapEntry} {ck : Nat} {p : List (Int × Int)} {dl rl : List MapEntry} {e : MapEntry}
theorem ent_int (hM : MapIs es ck (mpE (Value.int .i64) (Value.int .i64) p)) (he : e ∈ es.toList) : e.key = .int .i64 (enK e) ∧ e.val = .int .i64 (enV e) := by
  obtain ⟨j, hj⟩ := List.getElem?_of_mem he
  obtain ⟨x, y, _, h1, h2⟩ := mp_at hM hj
  unfold enK enV
  rw [h1, h2]
  exact ⟨rfl, rfl⟩
theorem ent_list (hM : MapIs es ck (mpE (Value.int .i64) (Value.int .i64) p)) : es.toList.map (fun e => (enK e, enV e)) = p := by
  apply List.ext_getElem?
  intro j
  rw [List.getElem?_map]
  cases hj : es.toList[j]? with
  | none =>
    have := mp_len hM
    rw [List.getElem?_eq_none_iff] at hj
    rw [List.getElem?_eq_none (by simp at hj; omega)]; rfl
  | some e =>
    obtain ⟨x, y, h0, h1, h2⟩ := mp_at hM hj
    rw [h0]
    show some (enK e, enV e) = _
    unfold enK enV
    rw [h1, h2]
theorem left_mem (hp : (dl ++ rl).Perm es.toList) (he : e ∈ (leftOf es (dl.map (·.born)).toArray).toList) : e ∈ es.toList ∧ ∃ a b, rl = a ++ e :: b := by
  unfold leftOf at he
  simp only [Array.toList_filter, List.mem_filter] at he
  obtain ⟨h1, h2⟩ := he
  refine ⟨h1, ?_⟩
  rcases List.mem_append.1 (hp.mem_iff.2 h1) with h | h
  · exfalso
    have : e.born ∈ dl.map (·.born) := List.mem_map.2 ⟨e, h, rfl⟩
    simp [this] at h2
  · exact List.append_of_mem h
theorem left_nil (hn : (es.toList.map (·.born)).Nodup) (hp : (dl ++ rl).Perm es.toList) (h0 : (leftOf es (dl.map (·.born)).toArray).size = 0) : rl = [] := by
  cases hr : rl with
  | nil => rfl
  | cons e r =>
    exfalso
    have hm : e ∈ es.toList := hp.mem_iff.1 (List.mem_append_right _ (by rw [hr]; exact .head _))
    have hn2 : ((dl ++ rl).map (·.born)).Nodup := (hp.map _).nodup_iff.2 hn
    rw [List.map_append, List.nodup_append] at hn2
    have h2 : e.born ∉ dl.map (·.born) := fun h => hn2.2.2 _ h _ (List.mem_map.2 ⟨e, by rw [hr]; exact .head _, rfl⟩) rfl
    have h3 : e ∈ (leftOf es (dl.map (·.born)).toArray).toList := by
      unfold leftOf
      simp only [Array.toList_filter, List.mem_filter]
      refine ⟨hm, ?_⟩
      simpa using h2
    have h4 := List.length_pos_of_mem h3
    rw [Array.length_toList, h0] at h4
    omega
theorem left_step {a b : List MapEntry} (hp : (dl ++ (a ++ e :: b)).Perm es.toList) : ((dl ++ [e]) ++ (a ++ b)).Perm es.toList := by
  refine List.Perm.trans ?_ hp
  rw [List.append_assoc]
  exact List.Perm.append_left dl (List.perm_middle (l₁ := a) (a := e) (l₂ := b)).symm
end
theorem sort_perm {β : Type} {key : β → Int} {l l' : List β} (hp : l.Perm l') (hd : l'.Pairwise fun a b => key a ≠ key b) : (l.mergeSort fun a b => decide (key a ≤ key b)) = l'.mergeSort fun a b => decide (key a ≤ key b) := by
  have ht : ∀ a b c : β, decide (key a ≤ key b) = true → decide (key b ≤ key c) = true → decide (key a ≤ key c) = true := fun a b c h1 h2 => by simp at *; omega
  have ho : ∀ a b : β, (decide (key a ≤ key b) || decide (key b ≤ key a)) = true := fun a b => by simp; omega
  have hinj : ∀ x ∈ l', ∀ y ∈ l', key x = key y → x = y := fun x hx y hy h => by
    obtain ⟨i, hi, rfl⟩ := List.getElem_of_mem hx
    obtain ⟨j, hj, rfl⟩ := List.getElem_of_mem hy
    have hp := List.pairwise_iff_getElem.1 hd
    rcases Nat.lt_trichotomy i j with h' | h' | h'
    · exact absurd h (hp i j hi hj h')
    · subst h'; rfl
    · exact absurd h.symm (hp j i hj hi h')
  refine List.Perm.eq_of_pairwise (le := fun a b => decide (key a ≤ key b) = true) (fun a b ha hb h1 h2 => ?_) (List.pairwise_mergeSort ht ho l) (List.pairwise_mergeSort ht ho l') (((List.mergeSort_perm l _).trans hp).trans (List.mergeSort_perm l' _).symm)
  have ha' : a ∈ l' := hp.mem_iff.1 ((List.mergeSort_perm l _).mem_iff.1 ha)
  have hb' : b ∈ l' := (List.mergeSort_perm l' _).mem_iff.1 hb
  simp at h1 h2
  exact hinj a ha' b hb' (by omega)
theorem Y_entry2 {P : Program} {n : Nat} {f : Nat → Value} {w0 w : World} {M : List Nat} {L : List Ob} {R : List Ro} {o : Oper} {x : Operand} {g r i j : Nat} (hS : ST w0 M w L R) {es : Array MapEntry} {ck since : Nat} {seen : Array Nat} {e : MapEntry} {kv vv : Value} (ho : o.op = .entry x) (hx : ev n f x = .pointer (some ⟨r, 0, none⟩))
    (hi : L[i]? = some ⟨some ⟨g, 0, none⟩, .ob (.map es ck), [], 0⟩) (hj : L[j]? = some ⟨some ⟨r, 0, none⟩, .ob (.mapIter (some g) since (seen.push e.born) ck), [], 0⟩) (he : e ∈ es.toList) (hn : (es.toList.map (·.born)).Nodup) (hk : e.key = kv) (hv : e.val = vv) : Y P n f w o (.tuple #[kv, vv]) := by
  have := Y_entry (P := P) hS ho hx hi hj he hn
  rwa [hk, hv] at this
end Go.VK
