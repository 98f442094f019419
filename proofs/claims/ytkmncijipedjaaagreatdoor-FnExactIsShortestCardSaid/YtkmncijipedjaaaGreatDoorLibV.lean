/- A table of the library's that stays as it is, and numbers as text. Plain lemmas over any program. -/
import Derived.Test.YtkmncijipedjaaaGreatDoorLibU
import Derived.Test.YtkmncijipedjaaaGreatDoorLibM
import Derived.Lib.LaidTab
import Derived.Lib.ItoaNum
import Derived.Lib.Join
import Derived.Lib.ItoaLen
import Derived.Sort.OwnSortedInts
namespace Go.VK
open Go.RowKit Go.Sort
def enc_u64 (x : Int) : List Value := [.int .u64 x]
theorem enc_u64_len (x : Int) : (enc_u64 x).length = 1 := rfl
theorem enc_u64_one (x : Int) : one (enc_u64 x) = true := rfl
theorem enc_u64_flat (l : List Int) : l.flatMap enc_u64 = l.map (Value.int .u64) := by
  induction l with
  | nil => rfl
  | cons a l ih => rw [List.flatMap_cons, List.map_cons, ih]; rfl
theorem ST.grown (w0 : World) (k : Nat) (os : Array Obj) : ST w0 [] (grow (w0.drewN k) os) [] [] :=
  ⟨rfl, rfl, rfl, by simp [grow], fun q hq _ => heap_grow_old (w0.drewN k) os (by simpa using hq), (fun _ h => by cases h), (fun _ h => by cases h), .nil, (fun _ h => by cases h), (fun _ h => by cases h)⟩
section
variable {P : Program} {w0 w : World} {M : List Nat} {L : List Ob} {R : List Ro}
theorem ST.notIn {g i : Nat} {cs : List Value} (hS : ST w0 M w L R) (hi : R[i]? = some ⟨some ⟨g, 0, none⟩, cs⟩) (hne : cs.isEmpty = false) : g ∉ bl L := fun h => by
  obtain ⟨o, ho, hb⟩ := List.mem_filterMap.1 h
  exact (hS.roblk _ (List.mem_of_getElem? hi) (by rintro rfl; cases hne) _ rfl).2 o ho hb
theorem tab_keep {g : Nat} {nm : String} {k : IntKind} {zs : List Int} (hS : ST w0 M w L R) (hT : Go.Lib.TabIs P w0 nm k zs) (hg : P.globalNamed nm = some g) (hM : g ∉ M) : Go.Lib.TabIs P w nm k zs := by
  unfold Go.Lib.TabIs World.var? at *
  rw [hg] at hT ⊢
  simp only [Option.bind_some] at hT ⊢
  have hlt : g < w0.heap.size := by
    cases h : w0.heap[g]? with
    | none => rw [h] at hT; cases hT
    | some x => exact (Array.getElem?_eq_some_iff.1 h).1
  rw [hS.frame g hlt hM]
  exact hT
theorem ST.belowS {w' : World} (hS : ST w0 M w L R) (hb : Below w.heap.size w w') : ST w0 M w' L R := by
  have hk := hb.block
  refine ⟨hb.os.trans hS.os, hb.tape.trans hS.tape, hb.output.trans hS.output, Nat.le_trans hS.size hb.size, fun k h1 h2 => (hk k (Nat.lt_of_lt_of_le h1 hS.size)).trans (hS.frame k h1 h2), fun o ho => (hS.own o ho).of_block fun g hg => hk g ((hS.own o ho).lt hg), hS.home, hS.apart,
    fun r hr => (hS.ro r hr).of_block fun hne a ha => hk _ (hS.roblk r hr hne a ha).1, fun r hr hne a ha => ⟨Nat.lt_of_lt_of_le (hS.roblk r hr hne a ha).1 hb.size, (hS.roblk r hr hne a ha).2⟩⟩
/-- The library's Join. -/
def F_strings_Join (elems : List (List UInt8)) (sep : List UInt8) : Option (List UInt8) :=
  chk (elems.length ≤ 140737488355328 ∧ (Go.Lib.join elems sep).length ≤ 140737488355328) <|
  some (Go.Lib.join elems sep)
theorem join_c {fid : FuncId} {T : TypeId}
    (h : ∀ (bk o c : Nat) (xs : List ByteArray) (sep : ByteArray) (w : World), (∀ (j : Nat) x, xs[j]? = some x → w.cell? ⟨bk, o + j, none⟩ = some (.string x)) → bk < w.heap.size → xs.length ≤ 140737488355328 → xs.length ≤ c → (Go.Lib.join (xs.map (·.data.toList)) sep.data.toList).length ≤ 140737488355328 →
      Calls P fid #[.slice (some ⟨bk, o, none⟩) xs.length c, .string sep] w fun e w' => e = .returned (.string ⟨(Go.Lib.join (xs.map (·.data.toList)) sep.data.toList).toArray⟩) ∧ Below w.heap.size w w')
    (h0 : ∀ (a : Option Addr) (c : Nat) (sep : ByteArray) (w : World), Calls P fid #[.slice a 0 c, .string sep] w fun e w' => e = .returned (.string ⟨#[]⟩) ∧ w' = w)
    (elems : List (List UInt8)) (sep : List UInt8) (B : Option Addr) (c n : Nat) (w0 : World) (hn : elems.length = n) (hS : ST w0 (bl [⟨B, T, elems.flatMap encS, c * 1⟩]) w0 [⟨B, T, elems.flatMap encS, c * 1⟩] []) {r : List UInt8} (hF : F_strings_Join elems sep = some r) :
    CV P fid #[.slice B n c, .string (bstr sep)] w0 (fun v w' => v = .string (bstr r) ∧ elems.length = n ∧ ST w0 (bl [⟨B, T, elems.flatMap encS, c * 1⟩]) w' [⟨B, T, elems.flatMap encS, c * 1⟩] []) := by
  subst hn
  obtain ⟨⟨h1, h2⟩, hF⟩ := chk_inv hF
  obtain rfl := Option.some.inj hF
  have hfe : elems.flatMap encS = elems.map fun x => Value.string (bstr x) := by
    generalize elems = l
    induction l with
    | nil => rfl
    | cons a l ih => rw [List.flatMap_cons, List.map_cons, ih]; rfl
  rcases (hS.own _ (List.mem_singleton.2 rfl)).ty rfl with ⟨_, e2, _⟩ | ⟨g, cur, e1, e2, e3, e4⟩
  · have he : elems = [] := by
      simp only at e2
      rw [hfe] at e2
      simpa using e2
    subst he
    refine Calls.mono (h0 B c (bstr sep) w0) (fun e w' he => ⟨_, he.1, rfl, rfl, ?_⟩)
    obtain ⟨_, rfl⟩ := he
    exact hS
  · simp only at e1 e3 e4
    subst e1
    have hcap := hS.lencap (i := 0) rfl (fm_lenn (l := elems) encS_len rfl) rfl rfl
    have hm : (elems.map bstr).map (·.data.toList) = elems := by
      rw [List.map_map]
      conv => rhs; rw [← List.map_id elems]
      rfl
    have hs : (bstr sep).data.toList = sep := rfl
    have key := h g 0 c (elems.map bstr) (bstr sep) w0 (fun j x hx => by
      rw [Nat.zero_add]
      have hc := (hS.own _ (List.mem_singleton.2 rfl)).cf
      have := hc.2 j (.string x) (by
        simp only
        rw [hfe, List.getElem?_map]
        rw [List.getElem?_map] at hx
        obtain ⟨y, hy, rfl⟩ := Option.map_eq_some_iff.1 hx
        rw [hy]; rfl)
      rw [ad_some] at this
      exact this) (Array.getElem?_eq_some_iff.1 e2).1 (by rw [List.length_map]; exact h1) (by rw [List.length_map]; exact hcap) (by rw [hm, hs]; exact h2)
    rw [List.length_map, hm, hs] at key
    exact Calls.mono key (fun e w' he => ⟨_, he.1, rfl, rfl, ST.belowS hS he.2⟩)
/-- The library's Itoa. -/
def F_strconv_Itoa (x : Int) : Option (List UInt8) :=
  chk ((-9223372036854775808 : Int) ≤ x ∧ x ≤ 9223372036854775807) <|
  some (Go.Lib.itoa x)
theorem itoa_c {fid : FuncId} (h : ∀ (n : Int), -9223372036854775808 ≤ n → n ≤ 9223372036854775807 → ∀ (w : World), Go.Lib.TabIs P w "internal/strconv.uint64pow10" .u64 Go.Lib.pow10Tab →
    Calls P fid #[.int .i64 n] w fun e w' => e = .returned (.string ⟨(Go.Lib.itoa n).toArray⟩) ∧ ∃ k os, w' = grow (w.drewN k) os)
    (x : Int) (w0 : World) (ht : Go.Lib.TabIs P w0 "internal/strconv.uint64pow10" .u64 Go.Lib.pow10Tab) {r : List UInt8} (hF : F_strconv_Itoa x = some r) : CV P fid #[.int .i64 x] w0 (fun v w' => v = .string (bstr r) ∧ ST w0 [] w' [] []) := by
  obtain ⟨⟨h0, h1⟩, hF⟩ := chk_inv hF
  obtain rfl := Option.some.inj hF
  refine Calls.mono (h x h0 h1 w0 ht) (fun e w' he => ⟨_, he.1, rfl, ?_⟩)
  obtain ⟨_, k, os, rfl⟩ := he
  exact ST.grown w0 k os
end
section
variable {H : Type} {enc : TypeId × Value → H} {P : Program} {w : World} {base : Nat} {spare : Nat → Bool} {held : Bool} {fuel T : Nat} {cs : List Value}
theorem rd_arr64 {n e : Nat} {l : List Int} {p : List MemPlace} (ha : arrB P T n e = true) (hT : sizeB P T n = true) (he : sizeB P e 1 = true) (hi : intB P e .u64 = true) (h : DataW.trod enc P w base spare held fuel T cs = some (.agg (l.map fun z => .lit (.int .u64 z)), p)) : cs = l.flatMap enc_u64 := by
  obtain ⟨xs, m, _, ex, hl, hn, hx⟩ := DataW.trod_array (arrB_spec ha) h
  rw [cellsOf_of hT] at hl
  have hd : l.map (fun z => (DataW.lit (.int .u64 z) : DataW H)) = xs.map (·.1) := by
    have := congrArg Prod.fst ex
    simpa using this
  have hll : l.length = n := by
    have := congrArg List.length hd
    rw [List.length_map, List.length_map, hn] at this
    exact this
  rw [enc_u64_flat]
  refine List.ext_getElem? fun i => ?_
  rcases Nat.lt_or_ge i n with hin | hin
  · have h1 := hx i hin
    rw [cellsOf_of he, Nat.mul_one, List.getElem?_eq_getElem (by omega)] at h1
    obtain ⟨z, h2, h3, _⟩ := DataW.trod_int (intB_spec hi) h1
    have h4 : (cs.drop i).take 1 = [cs[i]'(by omega)] := by
      rw [List.drop_eq_getElem_cons (by omega)]; rfl
    rw [h4] at h2
    have h5 : (l.map (fun z => (DataW.lit (.int .u64 z) : DataW H)))[i]? = some (.lit (.int .u64 z)) := by
      rw [hd, List.getElem?_map, List.getElem?_eq_getElem (by omega), h3]; rfl
    rw [List.getElem?_map, List.getElem?_eq_getElem (by omega)] at h5
    have h6 : l[i]'(by omega) = z := by
      have := Option.some.inj h5
      simpa using this
    rw [List.getElem?_map, List.getElem?_eq_getElem (by omega), List.getElem?_eq_getElem (show i < l.length by omega), (List.cons.inj h2).1, ← h6]
    rfl
  · rw [List.getElem?_eq_none (by omega), List.getElem?_map, List.getElem?_eq_none (by omega)]; rfl
/-- What a laid variable holds. -/
theorem laid_var {n : String} {d : DataW Unit} (h : laidMet P [(n, d)] w) {g t : Nat} {cs : List Value} (hg : P.globalNamed n = some g) (ht : ((P.globals[g]?).map (·.type) == some t) = true)
    (hc : ∀ (fuel : Nat) (x : List Value) (p : List MemPlace), DataW.trod (fun _ => ()) P w 0 (fun _ => true) false fuel t x = some (d, p) → x = cs) : w.var? P n = some cs.toArray := by
  obtain ⟨_, hv, _⟩ := h
  obtain ⟨g', t', c, fuel, p, q, h1, h2, h3, h4, _⟩ := hv
  rw [hg] at h1
  cases h1
  rw [eq_of_beq ht] at h2
  cases h2
  have hcs := hc _ _ _ h4
  rw [h3, ← hcs]
end
end Go.VK
