/- Views of what may only be read, and strings that are cut. Plain lemmas over any program. -/
import Derived.Test.YtkmncijipedjaaaGreatDoorLibL
import Derived.Laws.Strings2
import Derived.Laws.Slices
namespace Go.VK
open Go.RowKit

theorem fm_view {α : Type} {enc : α → List Value} {s : Nat} (hs : ∀ x, (enc x).length = s) (l : List α) (lo h : Nat) : ((l.take h).drop lo).flatMap enc = ((l.flatMap enc).take (h * s)).drop (lo * s) := by
  rw [← fm_drop hs, ← fm_take hs]
theorem CF.view {α : Type} {enc : α → List Value} {s : Nat} (hs : ∀ x, (enc x).length = s) {w : World} {B : Option Addr} {l : List α} (hc : CF w B (l.flatMap enc)) {lo h q : Nat} (h1 : lo ≤ h) (h2 : h ≤ q) : CF w (sv B lo q s) (((l.take h).drop lo).flatMap enc) := by
  have hne : ((l.take h).drop lo).flatMap enc ≠ [] → l.flatMap enc ≠ [] ∧ q ≠ lo := by
    intro hn
    refine ⟨fun e => hn ?_, fun e => hn ?_⟩
    · rw [fm_view hs, e]; simp
    · have : (l.take h).drop lo = [] := List.drop_of_length_le (by rw [List.length_take]; omega)
      rw [this]; rfl
  refine ⟨fun hn => ?_, fun j u hu => ?_⟩
  · obtain ⟨a, b⟩ := hne hn
    have := hc.1 a
    unfold sv
    rw [if_neg b]
    cases B with
    | none => cases this
    | some a => rfl
  · have hn : ((l.take h).drop lo).flatMap enc ≠ [] := by rintro e; rw [e] at hu; simp at hu
    obtain ⟨a, b⟩ := hne hn
    have hb := hc.1 a
    obtain ⟨a0, rfl⟩ := Option.isSome_iff_exists.mp hb
    have hcell : w.cell? (ad (some a0) (lo * s + j)) = some u := by
      refine hc.2 _ _ ?_
      rw [fm_view hs, List.getElem?_drop, List.getElem?_take] at hu
      split at hu
      · exact hu
      · cases hu
    have e : ad (sv (some a0) lo q s) j = ad (some a0) (lo * s + j) := by
      unfold sv ad
      rw [if_neg b]
      simp only [Option.map_some, Option.getD_some]
      exact add_add' _ _ _
    rw [e]; exact hcell
theorem sv_block {B : Option Addr} {lo q s : Nat} {a : Addr} (h : sv B lo q s = some a) : ∃ a0, B = some a0 ∧ a0.block = a.block := by
  unfold sv at h
  split at h
  · exact ⟨a, h, rfl⟩
  · cases B with
    | none => cases h
    | some a0 =>
      simp only [Option.map_some, Option.some.injEq] at h
      subst h
      refine ⟨a0, rfl, ?_⟩
      unfold Addr.add
      split <;> rfl
section
variable {P : Program} {n : Nat} {f : Nat → Value} {w0 w : World} {M : List Nat} {L : List Ob} {R : List Ro} {o : Oper} {T e : TypeId} {x y : Operand}
/-- Elements lo to h of what may be read may be read too. -/
theorem ST.view {α : Type} {enc : α → List Value} {s : Nat} (hs : ∀ x, (enc x).length = s) (hS : ST w0 M w L R) {i : Nat} {B : Option Addr} {l : List α} (hi : R[i]? = some ⟨B, l.flatMap enc⟩) {lo h q : Nat} (h1 : lo ≤ h) (h2 : h ≤ q) {B' : Option Addr} (hB : B' = sv B lo q s)
    {c : List α} (hc : c = (l.take h).drop lo) : ST w0 M w L (⟨B', c.flatMap enc⟩ :: R) := by
  subst hB hc
  have hm := List.mem_of_getElem? hi
  refine ⟨hS.os, hS.tape, hS.output, hS.size, hS.frame, hS.own, hS.home, hS.apart, ?_, ?_⟩
  · intro r hr
    rcases List.mem_cons.1 hr with rfl | hr
    · exact (hS.ro _ hm).view hs h1 h2
    · exact hS.ro r hr
  · intro r hr hne a ha
    rcases List.mem_cons.1 hr with rfl | hr
    · obtain ⟨a0, e1, e2⟩ := sv_block ha
      have hn : l.flatMap enc ≠ [] := fun e => hne (by
        show ((l.take h).drop lo).flatMap enc = []
        rw [fm_view hs, e]; simp)
      have := hS.roblk _ hm hn a0 e1
      rw [e2] at this
      exact this
    · exact hS.roblk r hr hne a ha
theorem take_all {α : Type} {l : List α} {n : Nat} (h : l.length = n) (lo : Nat) : l.drop lo = (l.take n).drop lo := by rw [List.take_of_length_le (by omega)]
theorem take_none {α : Type} (l : List α) (h : Nat) : l.take h = (l.take h).drop 0 := rfl
theorem view_len {α : Type} {l : List α} {n lo h : Nat} (hn : l.length = n) (h2 : h ≤ n) : ((l.take h).drop lo).length = h - lo := by rw [List.length_drop, List.length_take]; omega
theorem take_len {α : Type} {l : List α} {n h : Nat} (hn : l.length = n) (h2 : h ≤ n) : (l.take h).length = h := by rw [List.length_take]; omega
theorem drop_len {α : Type} {l : List α} {n lo : Nat} (hn : l.length = n) : (l.drop lo).length = n - lo := by rw [List.length_drop, hn]
/-- A slice up to h. -/
theorem Y_slice0 {hi : Option Operand} {B : Option Addr} {m c h s : Nat} (hT : sliceB P T e = true) (hs : sizeB P e s = true) (ho : o.op = .slice T x none hi none) (hx : ev n f x = .slice B m c) (hh : bnd n f hi m h) (h2 : h ≤ c) : Y P n f w o (.slice B h c) := by
  have := Y_slice (lo := none) (mx := none) (l := 0) (h := h) (q := c) (s := s) (w := w) hT hs ho hx rfl hh rfl (by simp) (Nat.zero_le _) h2 (Nat.le_refl _)
  rw [sv_zero] at this
  simpa using this
theorem Y_slice1 {lo hi : Option Operand} {B : Option Addr} {m c l h s : Nat} (hT : sliceB P T e = true) (hs : sizeB P e s = true) (ho : o.op = .slice T x lo hi none) (hx : ev n f x = .slice B m c) (hh : bnd n f hi m h) (hl : bnd n f lo 0 l) (h1 : l ≤ h) (h2 : h ≤ c) : Y P n f w o (.slice (sv B l c s) (h - l) (c - l)) :=
  Y_slice (mx := none) hT hs ho hx rfl hh hl (by simp) h1 h2 (Nat.le_refl _)
theorem bnd_some {y : Operand} {k : IntKind} {a : Int} {d v : Nat} (h : ev n f y = .int k a) (hv : a = (v : Int)) : bnd n f (some y) d v := ⟨k, a, h, hv⟩
theorem nn_toNat {a : Int} (h : 0 ≤ a) : a = (a.toNat : Int) := (Int.toNat_of_nonneg h).symm
/-- A string cut: bytes l to h. -/
theorem bstr_extract (a : List UInt8) (l h : Nat) : (bstr a).extract l h = bstr ((a.take h).drop l) := by
  have := ByteArray.extract_mk a l h
  unfold bstr
  rw [this]
  congr 2
  rw [List.drop_take]
theorem Y_sslice {lo hi : Operand} {a : List UInt8} {k k' : IntKind} {l h : Int} (hT : strB P T = true) (ho : o.op = .slice T x (some lo) (some hi) none) (hx : ev n f x = .string (bstr a)) (hl : ev n f lo = .int k l) (hh : ev n f hi = .int k' h) (h0 : 0 ≤ l ∧ l ≤ h ∧ h ≤ (a.length : Int)) :
    Y P n f w o (.string (bstr ((a.take h.toNat).drop l.toNat))) := by
  have hr := run_slice_string (P := P) w T (bstr a) k k' l h (strB_spec hT) h0.1 h0.2.1 (by rw [bstr_size]; exact h0.2.2)
  rw [bstr_extract] at hr
  have hr := (run_sliceAt_string (P := P) w T _ _ _ _ (strB_spec hT)).trans hr
  unfold Y execOp; rw [ho]; simp [hx, hl, hh, hr]
theorem Y_sslice0 {hi : Operand} {a : List UInt8} {k' : IntKind} {h : Int} (hT : strB P T = true) (ho : o.op = .slice T x none (some hi) none) (hx : ev n f x = .string (bstr a)) (hh : ev n f hi = .int k' h) (h0 : 0 ≤ h ∧ h ≤ (a.length : Int)) :
    Y P n f w o (.string (bstr (a.take h.toNat))) := by
  have hr := run_slice_string_h (P := P) w T (bstr a) (strB_spec hT) k' h h0.1 (by rw [bstr_size]; exact h0.2)
  rw [bstr_extract, List.drop_zero] at hr
  have hr := (run_sliceAt_string (P := P) w T _ _ _ _ (strB_spec hT)).trans hr
  unfold Y execOp; rw [ho]; simp [hx, hh, hr]
theorem Y_sslice1 {lo : Operand} {a : List UInt8} {k : IntKind} {l : Int} (hT : strB P T = true) (ho : o.op = .slice T x (some lo) none none) (hx : ev n f x = .string (bstr a)) (hl : ev n f lo = .int k l) (h0 : 0 ≤ l ∧ l ≤ (a.length : Int)) :
    Y P n f w o (.string (bstr (a.drop l.toNat))) := by
  have hr := run_slice_string_l (P := P) w T (bstr a) (strB_spec hT) k l h0.1 (by rw [bstr_size]; exact h0.2)
  rw [bstr_extract, bstr_size, List.take_length] at hr
  have hr := (run_sliceAt_string (P := P) w T _ _ _ _ (strB_spec hT)).trans hr
  unfold Y execOp; rw [ho]; simp [hx, hl, hr]
end
/-! ## a row sorted -/
def insI (x : Int) : List Int → List Int
  | [] => [x]
  | y :: l => if x ≤ y then x :: y :: l else y :: insI x l
def sortI : List Int → List Int
  | [] => []
  | x :: l => insI x (sortI l)
theorem insI_perm (x : Int) : ∀ (l : List Int), (insI x l).Perm (x :: l)
  | [] => .refl _
  | y :: l => by
    unfold insI
    split
    · exact .refl _
    · exact ((insI_perm x l).cons y).trans (.swap x y l)
theorem sortI_perm : ∀ (l : List Int), (sortI l).Perm l
  | [] => .refl _
  | x :: l => (insI_perm x _).trans ((sortI_perm l).cons x)
theorem insI_sorted (x : Int) : ∀ (l : List Int), l.Pairwise (· ≤ ·) → (insI x l).Pairwise (· ≤ ·)
  | [], _ => by simp [insI]
  | y :: l, h => by
    rw [List.pairwise_cons] at h
    unfold insI
    split
    · rename_i hxy
      rw [List.pairwise_cons]
      refine ⟨fun z hz => ?_, List.pairwise_cons.2 h⟩
      rcases List.mem_cons.1 hz with rfl | hz
      · exact hxy
      · exact Int.le_trans hxy (h.1 z hz)
    · rename_i hxy
      rw [List.pairwise_cons]
      refine ⟨fun z hz => ?_, insI_sorted x l h.2⟩
      have := (insI_perm x l).mem_iff.1 hz
      rcases List.mem_cons.1 this with rfl | hz
      · omega
      · exact h.1 z hz
theorem sortI_sorted : ∀ (l : List Int), (sortI l).Pairwise (· ≤ ·)
  | [] => .nil
  | x :: l => insI_sorted x _ (sortI_sorted l)
theorem merge_sortI (l : List Int) : (l.mergeSort fun x y => decide (x ≤ y)) = sortI l := by
  have h1 := List.mergeSort_perm l (fun x y => decide (x ≤ y))
  have h2 : (l.mergeSort fun x y => decide (x ≤ y)).Pairwise (· ≤ ·) := by
    have := List.pairwise_mergeSort (le := fun x y : Int => decide (x ≤ y)) (fun a b c => by simp only [decide_eq_true_eq]; omega) (fun a b => by simp only [Bool.or_eq_true, decide_eq_true_eq]; omega) l
    exact this.imp (fun h => by simpa using h)
  exact (h1.trans (sortI_perm l).symm).eq_of_pairwise (fun a b _ _ h h' => Int.le_antisymm h h') h2 (sortI_sorted l)
theorem sortI_len (l : List Int) : (sortI l).length = l.length := (sortI_perm l).length_eq
end Go.VK
