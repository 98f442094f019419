/- copy between rows, and keys that are strings. Plain lemmas over any program. -/
import Derived.Test.YtkmncijipedjaaaGreatDoorLibS
import Derived.Test.YtkmncijipedjaaaGreatDoorLibP
namespace Go.VK
open Go.RowKit
theorem CF.pre {w : World} {B : Option Addr} {cs cs' : List Value} (h : CF w B cs) (hp : cs' <+: cs) : CF w B cs' := by
  obtain ⟨t, rfl⟩ := hp
  refine ⟨fun hne => h.1 (fun e => hne (List.append_eq_nil_iff.1 e).1), fun j u hu => h.2 j u ?_⟩
  rw [List.getElem?_append_left (List.getElem?_eq_some_iff.1 hu).1]; exact hu
theorem pre_take {α : Type} {enc : α → List Value} (l : List α) (k : Nat) : (l.take k).flatMap enc <+: l.flatMap enc := by
  refine ⟨(l.drop k).flatMap enc, ?_⟩
  rw [← List.flatMap_append, List.take_append_drop]
section
variable {P : Program} {n : Nat} {f : Nat → Value} {w0 w : World} {M : List Nat} {L L' : List Ob} {R : List Ro} {o : Oper} {T e : TypeId} {x y : Operand}
theorem run_first {X : Option Addr} {cs : List Value} {k c2 s nn : Nat} (hX : CF w X cs) (hl : cs.length = nn * s) : (Builtin.firstCells s nn (.slice X k c2)).run P w = .ok cs.toArray w := by
  cases X with
  | none =>
    have hcs : cs = [] := Classical.byContradiction fun h => by have := hX.1 h; cases this
    subst hcs
    rfl
  | some a =>
    have := run_loadCells_list (P := P) w a cs (fun j v h => hX.2 j v h)
    rw [hl] at this
    exact this
/-- Part of a row laid over another one, or over itself. -/
theorem Ys_copyAt {α : Type} {enc : α → List Value} {s i lo m c k c2 cd : Nat} {B X : Option Addr} {l l' : List α} (hS : ST w0 M w L R) (hT : sliceB P T e = true) (hs : sizeB P e s = true) (hs0 : Nat.blt 0 s = true)
    (ho : o.op = .call ⟨.builtin .copy, #[x, y], #[T, T]⟩) (hx : ev n f x = .slice (sv B lo c s) (m - lo) cd) (hy : ev n f y = .slice X k c2) (hi : L[i]? = some ⟨B, e, l.flatMap enc, c * s⟩) (hl : l.length = m)
    (he : ∀ x, (enc x).length = s) (h1 : ∀ x, one (enc x) = true) (hX : CF w X (l'.flatMap enc)) (hl' : l'.length = k) (hlo : lo ≤ m)
    (hL : L.set i ⟨B, e, (List.take lo l ++ List.take (min k (m - lo)) l' ++ List.drop (lo + min k (m - lo)) l).flatMap enc, c * s⟩ = L') :
    Ys P n f w o (fun v w' => v = .int .i64 ((min k (m - lo) : Nat) : Int) ∧ ST w0 M w' L' R) := by
  have ht := sliceB_spec hT
  have hs0' := Nat.blt_eq.mp hs0
  have hmc := hS.lencap hi (fm_lenn he hl) rfl hs0
  generalize hnn : min k (m - lo) = nn at hL
  have hmin : Nat.min k (m - lo) = nn := hnn
  have hn1 : nn ≤ k := by omega
  have hn2 : lo + nn ≤ m := by omega
  have hlv : (l'.take nn).length = nn := by rw [List.length_take]; omega
  have hfirst := run_first (P := P) (k := k) (c2 := c2) (hX.pre (pre_take l' nn)) (fm_lenn (enc := enc) he hlv)
  rcases Nat.eq_zero_or_pos nn with h0 | hpos
  · have hLL : L' = L := by
      rw [← hL, h0]
      simp only [List.take_zero, List.append_nil, Nat.add_zero, List.take_append_drop]
      obtain ⟨hl2, he2⟩ := List.getElem?_eq_some_iff.1 hi
      rw [← he2, List.set_getElem_self]
    rw [h0] at hfirst hmin
    simp only [List.take_zero, List.flatMap_nil] at hfirst
    refine ⟨.int .i64 ((nn : Nat) : Int), w, .inl ?_, rfl, by rw [hLL]; exact hS⟩
    rw [h0]
    unfold execOp; rw [ho]
    cases hB : sv B lo c s <;> rw [hB] at hx <;> simp [resolve, invoke, builtin, hx, hy, Builtin.copy_, run_underlying ht, Builtin.lenOf, hmin, run_sizeOf hs, hfirst, storeCells, goInt]
  · have hne : ¬ c = lo := by omega
    have hcell : lo * s + ((l'.take nn).flatMap enc).length ≤ (l.flatMap enc).length := by
      rw [fm_lenn he hlv, fm_lenn he hl, ← Nat.add_mul]; exact Nat.mul_le_mul_right _ hn2
    have hspl : splice (l.flatMap enc) (lo * s) ((l'.take nn).flatMap enc) = (List.take lo l ++ List.take nn l' ++ List.drop (lo + nn) l).flatMap enc := by
      unfold splice
      rw [fm_lenn he hlv, ← Nat.add_mul, fm_take he, fm_drop he, List.flatMap_append, List.flatMap_append]
    obtain ⟨w', hr, hST⟩ := store_ST (P := P) hS hi hcell (fm_one' h1 _) hspl hL
    have hBs : ∃ b, B = some b := by
      cases B with
      | some b => exact ⟨b, rfl⟩
      | none =>
        have := ((hS.own _ (List.mem_of_getElem? hi)).cf).1 (by
          intro h
          have h2 := congrArg List.length h
          rw [fm_lenn he hl] at h2
          have : m = 0 := by rcases Nat.mul_eq_zero.1 h2 with h | h <;> omega
          omega)
        cases this
    obtain ⟨b, rfl⟩ := hBs
    have hsv : sv (some b) lo c s = some (ad (some b) (lo * s)) := by unfold sv; rw [if_neg hne]; rfl
    rw [hsv] at hx
    refine ⟨.int .i64 ((nn : Nat) : Int), w', .inl ?_, rfl, hST⟩
    unfold execOp; rw [ho]
    simp [resolve, invoke, builtin, hx, hy, Builtin.copy_, run_underlying ht, Builtin.lenOf, hmin, run_sizeOf hs, hfirst, hr, goInt]
theorem Ys_copy {α : Type} {enc : α → List Value} {s i m c k c2 : Nat} {B X : Option Addr} {l l' : List α} (hS : ST w0 M w L R) (hT : sliceB P T e = true) (hs : sizeB P e s = true) (hs0 : Nat.blt 0 s = true)
    (ho : o.op = .call ⟨.builtin .copy, #[x, y], #[T, T]⟩) (hx : ev n f x = .slice B m c) (hy : ev n f y = .slice X k c2) (hi : L[i]? = some ⟨B, e, l.flatMap enc, c * s⟩) (hl : l.length = m)
    (he : ∀ x, (enc x).length = s) (h1 : ∀ x, one (enc x) = true) (hX : CF w X (l'.flatMap enc)) (hl' : l'.length = k)
    (hL : L.set i ⟨B, e, (List.take (min k m) l' ++ List.drop (min k m) l).flatMap enc, c * s⟩ = L') :
    Ys P n f w o (fun v w' => v = .int .i64 ((min k m : Nat) : Int) ∧ ST w0 M w' L' R) := by
  have := Ys_copyAt (P := P) (n := n) (f := f) (o := o) (x := x) (y := y) (lo := 0) (cd := c) hS hT hs hs0 ho (by rw [sv_zero]; exact hx) hy hi hl he h1 hX hl' (Nat.zero_le m) (L' := L') (by rw [← hL]; simp)
  simpa using this
end
theorem copy_len {α : Type} {l l' : List α} {k m : Nat} (hl : l.length = m) (hl' : l'.length = k) : (List.take (min k m) l' ++ List.drop (min k m) l).length = m := by
  simp only [List.length_append, List.length_take, List.length_drop]; omega
theorem copyAt_len {α : Type} {l l' : List α} {lo k m : Nat} (hl : l.length = m) (hl' : l'.length = k) (h : lo ≤ m) : (List.take lo l ++ List.take (min k (m - lo)) l' ++ List.drop (lo + min k (m - lo)) l).length = m := by
  simp only [List.length_append, List.length_take, List.length_drop]; omega
theorem bstr_inj {a b : List UInt8} (h : bstr a = bstr b) : a = b := by rw [← bstr_list a, h, bstr_list]
theorem find_str {a : List UInt8} : ∀ (es : List MapEntry) (i : Nat), (∀ e ∈ es, ∃ x, e.key = Value.string (bstr x)) →
    (Instr.findNow .string (.string (bstr a)) es i = some none ∧ ∀ e ∈ es, e.key ≠ .string (bstr a)) ∨ ∃ j e, Instr.findNow .string (.string (bstr a)) es i = some (some (i + j, e.val)) ∧ es[j]? = some e ∧ e.key = .string (bstr a)
  | [], _, _ => .inl ⟨rfl, fun _ h => by cases h⟩
  | e :: es, i, h => by
    obtain ⟨x, hx⟩ := h e (.head _)
    unfold Instr.findNow
    rw [hx]
    have hs : Instr.sameNow .string (.string (bstr a)) (.string (bstr x)) = some (bstr a == bstr x) := rfl
    rw [hs]
    by_cases hax : a = x
    · subst hax
      rw [show (bstr a == bstr a) = true from (MapKept.bytes_beq _ _).2 rfl]
      exact .inr ⟨0, e, rfl, rfl, hx⟩
    · have hne : bstr a ≠ bstr x := fun e => hax (bstr_inj e)
      rw [show (bstr a == bstr x) = false from Bool.eq_false_iff.2 (fun h => hne ((MapKept.bytes_beq _ _).1 h))]
      rcases find_str (a := a) es (i + 1) (fun e he => h e (.tail _ he)) with ⟨h1, h2⟩ | ⟨j, e', h1, h2, h3⟩
      · refine .inl ⟨h1, fun e' he' => ?_⟩
        rcases List.mem_cons.1 he' with rfl | he'
        · rw [hx]; intro hh; cases hh; exact hne rfl
        · exact h2 e' he'
      · refine .inr ⟨j + 1, e', ?_, h2, h3⟩
        show Instr.findNow .string (.string (bstr a)) es (i + 1) = _
        rw [h1, show i + 1 + j = i + (j + 1) by omega]
def vStr (a : List UInt8) : Value := .string (bstr a)
theorem keyStr {P : Program} {kt : TypeId} (hk : strB P kt = true) : KeyE P kt vStr where
  inj a b h := bstr_inj (by unfold vStr at h; injection h)
  check w em a := by
    show (Instr.checkKey em (9999 + 1) kt (.string (bstr a))).run P w = .ok () w
    unfold Instr.checkKey
    simp only [Sem.run_bind, run_underlying (strB_spec hk), Result.andThen_ok, Sem.run_pure]
  find w a es h := by
    rcases find_str (a := a) es 0 h with ⟨h1, h2⟩ | ⟨j, e, h1, h2, h3⟩
    · exact .inl ⟨run_findNow (strB_spec hk) h1, h2⟩
    · exact .inr ⟨j, e, run_findNow (strB_spec hk) (by show Instr.findNow TypeDesc.string (Value.string (bstr a)) es 0 = _; rw [h1, Nat.zero_add]), h2, h3⟩
  stays w a := by
    unfold Instr.keyThatStays vStr
    rw [show Instr.sameBits 10000 (.string (bstr a)) (.string (bstr a)) = true from by
      show (bstr a == bstr a) = true
      exact (MapKept.bytes_beq _ _).2 rfl]
    rfl
/-! ### maps whose elements are slices -/
section
variable {κ α : Type} {enc : α → List Value}
def vSl (p : Hd × List α) : Value := .slice p.1.1 p.2.length p.1.2
def dm (p : κ × (Hd × List α)) : κ × List α := (p.1, p.2.2)
def rowM (enc : α → List Value) (p : κ × (Hd × List α)) : List Ro := [⟨p.2.1.1, p.2.2.flatMap enc⟩]
theorem slD {v : Hd × List α} {B : Option Addr} {c : Nat} {x : List α} (h : v = ((B, c), x)) : vSl v = .slice B x.length c := by rw [h]; rfl
theorem tupD {v : Hd × List α} {b b' : Bool} {B : Option Addr} {c : Nat} {x : List α} (h : v = ((B, c), x)) (hb : b = b') : Value.tuple #[vSl v, .bool b] = .tuple #[.slice B x.length c, .bool b'] := by rw [h, hb]; rfl
theorem Y_as {P : Program} {n : Nat} {f : Nat → Value} {w : World} {o : Oper} {v v' : Value} (h : v = v') (hY : Y P n f w o v) : Y P n f w o v' := h ▸ hY
variable [DecidableEq κ] {D : List (κ × (Hd × List α))} {l : List (κ × List α)} {R : List Ro}
theorem mput_dm (h : D.map dm = l) (a : κ) (hd : Hd) (x : List α) : (mput D a (hd, x)).map dm = mput l a x := by
  subst h
  induction D with
  | nil => rfl
  | cons p r ih =>
    obtain ⟨k, z⟩ := p
    unfold mput
    by_cases hk : k = a
    · rw [if_pos hk]
      show _ = mput (dm (k, z) :: r.map dm) a x
      unfold dm mput
      rw [if_pos hk]; rfl
    · rw [if_neg hk, List.map_cons, ih]
      show _ = mput (dm (k, z) :: r.map dm) a x
      unfold dm
      rw [mput, if_neg hk]
theorem mfd_dm (h : D.map dm = l) (a : κ) : (mfd D a).map (·.2) = mfd l a := by
  subst h
  induction D with
  | nil => rfl
  | cons p r ih =>
    obtain ⟨k, z⟩ := p
    show _ = mfd (dm (k, z) :: r.map dm) a
    unfold dm mfd
    by_cases hk : k = a
    · rw [if_pos hk, if_pos hk]; rfl
    · rw [if_neg hk, if_neg hk]; exact ih
theorem mhas_dm (h : D.map dm = l) (a : κ) : mhas D a = mhas l a := by
  unfold mhas
  rw [← mfd_dm h, Option.isSome_map]
theorem mgt_dm (h : D.map dm = l) (a : κ) : ∃ hd : Hd, mgt D a ((none, 0), []) = (hd, mgt l a []) := by
  unfold mgt
  rw [← mfd_dm h]
  cases mfd D a with
  | none => exact ⟨_, rfl⟩
  | some z => exact ⟨z.1, rfl⟩
theorem mput_sub (h : ∀ r ∈ D.flatMap (rowM enc), r ∈ R) {B : Option Addr} {c : Nat} {x : List α} (hx : (⟨B, x.flatMap enc⟩ : Ro) ∈ R) (a : κ) : ∀ r ∈ (mput D a ((B, c), x)).flatMap (rowM enc), r ∈ R := by
  induction D with
  | nil =>
    intro r hr
    simp only [mput, List.flatMap_cons, List.flatMap_nil, List.append_nil, rowM, List.mem_singleton] at hr
    rw [hr]; exact hx
  | cons p r ih =>
    obtain ⟨k, z⟩ := p
    intro q hq
    unfold mput at hq
    have h1 : ∀ r_ ∈ rowM enc (k, z), r_ ∈ R := fun r_ hr_ => h r_ (by rw [List.flatMap_cons]; exact List.mem_append_left _ hr_)
    have h2 : ∀ r_ ∈ r.flatMap (rowM enc), r_ ∈ R := fun r_ hr_ => h r_ (by rw [List.flatMap_cons]; exact List.mem_append_right _ hr_)
    split at hq
    · rw [List.flatMap_cons] at hq
      rcases List.mem_append.1 hq with hq | hq
      · simp only [rowM, List.mem_singleton] at hq
        rw [hq]; exact hx
      · exact h2 q hq
    · rw [List.flatMap_cons] at hq
      rcases List.mem_append.1 hq with hq | hq
      · exact h1 q hq
      · exact ih h2 q hq
theorem mgt_mem (h : ∀ r ∈ D.flatMap (rowM enc), r ∈ R) (hn : (⟨none, []⟩ : Ro) ∈ R) {a : κ} {B : Option Addr} {c : Nat} {x : List α} (hp : mgt D a ((none, 0), []) = ((B, c), x)) : (⟨B, x.flatMap enc⟩ : Ro) ∈ R := by
  induction D with
  | nil =>
    unfold mgt mfd at hp
    simp only [Option.getD_none, Prod.mk.injEq] at hp
    obtain ⟨⟨rfl, _⟩, rfl⟩ := hp
    exact hn
  | cons p r ih =>
    obtain ⟨k, z⟩ := p
    have h1 : ∀ r_ ∈ rowM enc (k, z), r_ ∈ R := fun r_ hr_ => h r_ (by rw [List.flatMap_cons]; exact List.mem_append_left _ hr_)
    have h2 : ∀ r_ ∈ r.flatMap (rowM enc), r_ ∈ R := fun r_ hr_ => h r_ (by rw [List.flatMap_cons]; exact List.mem_append_right _ hr_)
    unfold mgt mfd at hp
    by_cases hk : k = a
    · rw [if_pos hk] at hp
      simp only [Option.getD_some] at hp
      subst hp
      exact h1 _ (by simp [rowM])
    · rw [if_neg hk] at hp
      exact ih h2 hp
end
end Go.VK
