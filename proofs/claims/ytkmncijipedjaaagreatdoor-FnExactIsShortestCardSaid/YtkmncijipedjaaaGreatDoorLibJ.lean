/- Maps of whole numbers that are made, filled and asked in one piece. Plain lemmas over any program. -/
import Derived.Test.YtkmncijipedjaaaGreatDoorLibG
namespace Go.VK
open Go.RowKit

def mapB (P : Program) (T kt et : TypeId) : Bool := match P.underlying T with | some (.map k e) => Nat.beq k kt && Nat.beq e et | _ => false
theorem mapB_spec {P : Program} {T kt et : TypeId} (h : mapB P T kt et = true) : P.underlying T = some (.map kt et) := by
  unfold mapB at h; split at h
  · rename_i k e he
    simp only [Bool.and_eq_true] at h
    rw [he, Nat.eq_of_beq_eq_true h.1, Nat.eq_of_beq_eq_true h.2]
  · cases h
/-- A map of our own in block g, beside the rest of the heap. -/
structure MP (w0 : World) (M : List Nat) (w : World) (L : List Ob) (R : List Ro) (g : Nat) (es : Array MapEntry) (cl : Nat) : Prop where
  st : ST w0 M w L R
  here : w.heap[g]? = some (.map es cl)
  new : w0.heap.size ≤ g
  offL : ∀ o ∈ L, o.blk ≠ some g
  offR : ∀ r ∈ R, r.cs ≠ [] → ∀ a, r.B = some a → a.block ≠ g
theorem get_map {P : Program} {w : World} {r : Nat} {es : Array MapEntry} {c : Nat} (h : w.heap[r]? = some (.map es c)) : (getObj r).run P w = .ok (.map es c) w := by simp [getObj, Sem.run, h]
theorem set_map {P : Program} {w : World} {r : Nat} {es : Array MapEntry} {c : Nat} (o : Obj) (h : w.heap[r]? = some (.map es c)) : (setObj r o).run P w = .ok () { w with heap := w.heap.setIfInBounds r o } := by simp [setObj, Sem.run, h]
/-- Entries of whole numbers. -/
def mes (k : IntKind) (e : IntKind) : List (Int × Int) → Nat → List MapEntry
  | [], _ => []
  | (a, b) :: r, n => ⟨.int k a, .int e b, n⟩ :: mes k e r (n + 1)
section
variable {P : Program} {n : Nat} {f : Nat → Value} {w0 w : World} {M : List Nat} {L : List Ob} {R : List Ro} {o : Oper} {T kt et : TypeId} {x y z : Operand}
theorem Ys_makeMap (hS : ST w0 M w L R) (ho : o.op = .makeMap T none) : Ys P n f w o (fun v w' => ∃ g, v = .map (some g) ∧ MP w0 M w' L R g #[] 0) := by
  have hb : ∀ k, k < w.heap.size → (w.alloc (.map #[] 0)).heap[k]? = w.heap[k]? := fun k hk => Below.heap_alloc w _ k hk
  refine ⟨.map (some w.heap.size), w.alloc (.map #[] 0), .inl ?_, w.heap.size, rfl, ?_⟩
  · unfold execOp; rw [ho]
    rfl
  · refine ⟨⟨hS.os, hS.tape, hS.output, Nat.le_trans hS.size (by simp), ?_, ?_, hS.home, hS.apart, ?_, ?_⟩, heap_alloc_new w _, hS.size, ?_, ?_⟩
    · intro k hk hm
      rw [hb k (Nat.lt_of_lt_of_le hk hS.size)]
      exact hS.frame k hk hm
    · exact fun q hq => (hS.own q hq).of_block (fun g hg => hb g ((hS.own q hq).lt hg))
    · exact fun r hr => (hS.ro r hr).of_block (fun hne a ha => hb _ (hS.roblk r hr hne a ha).1)
    · exact fun r hr hne a ha => ⟨by have := (hS.roblk r hr hne a ha).1; simp; omega, (hS.roblk r hr hne a ha).2⟩
    · exact fun q hq hg => by have := (hS.own q hq).lt hg; omega
    · exact fun r hr hne a ha e => by have := (hS.roblk r hr hne a ha).1; omega
/-- Block g turns; the rest does not know it. -/
theorem MP.turn {g : Nat} {es es' : Array MapEntry} {cl cl' : Nat} (h : MP w0 M w L R g es cl) : MP w0 M { w with heap := w.heap.setIfInBounds g (.map es' cl') } L R g es' cl' := by
  have hS := h.st
  have hlt : g < w.heap.size := (Array.getElem?_eq_some_iff.1 h.here).1
  have hb : ∀ k, k ≠ g → (w.heap.setIfInBounds g (.map es' cl'))[k]? = w.heap[k]? := fun k hk => by rw [Array.getElem?_setIfInBounds]; rw [if_neg (fun e => hk e.symm)]
  refine ⟨⟨hS.os, hS.tape, hS.output, by simpa using hS.size, ?_, ?_, hS.home, hS.apart, ?_, ?_⟩, ?_, h.new, h.offL, h.offR⟩
  · intro k hk hm
    have := h.new
    rw [← hS.frame k hk hm]
    exact hb k (by omega)
  · exact fun q hq => (hS.own q hq).of_block (fun j hj => hb j (fun e => h.offL q hq (by rw [hj, e])))
  · exact fun r hr => (hS.ro r hr).of_block (fun hne a ha => hb _ (h.offR r hr hne a ha))
  · exact fun r hr hne a ha => ⟨by simpa using (hS.roblk r hr hne a ha).1, (hS.roblk r hr hne a ha).2⟩
  · show (w.heap.setIfInBounds g (.map es' cl'))[g]? = _
    rw [Array.getElem?_setIfInBounds]; simp [hlt]
theorem run_findNow {k : Value} {es : List MapEntry} {d : TypeDesc} {r : Option (Nat × Value)} (hu : P.underlying kt = some d) (h : Instr.findNow d k es 0 = some r) : (Instr.findKey kt k es).run P w = .ok r w := by
  unfold Instr.findKey
  simp only [Sem.run_bind, run_underlying hu, Result.andThen_ok, h, Sem.run_pure]
theorem run_checkKey_int {b : Bool} {k k' : IntKind} {a : Int} (hu : P.underlying kt = some (.int k')) : (Instr.checkKey b 10000 kt (.int k a)).run P w = .ok () w := by
  show (Instr.checkKey b (9999 + 1) kt (.int k a)).run P w = .ok () w
  unfold Instr.checkKey
  simp only [Sem.run_bind, run_underlying hu, Result.andThen_ok, Sem.run_pure]
theorem Ys_insert {g : Nat} {es : Array MapEntry} {cl : Nat} {kd ed : IntKind} {a b : Int} (h : MP w0 M w L R g es cl) (hm : mapB P T kt et = true) (hk : intB P kt kd = true) (ho : o.op = .insert T x y z) (hx : ev n f x = .map (some g))
    (hy : ev n f y = .int kd a) (hz : ev n f z = .int ed b) (hf : Instr.findNow (.int kd) (.int kd a) es.toList 0 = some none) :
    Ys P n f w o (fun v w' => v = undef ∧ MP w0 M w' L R g (es.push ⟨.int kd a, .int ed b, cl⟩) (cl + 1)) := by
  have hu := intB_spec hk
  refine ⟨undef, _, .inr ⟨?_, rfl⟩, rfl, h.turn (es' := es.push ⟨.int kd a, .int ed b, cl⟩) (cl' := cl + 1)⟩
  unfold execOp; rw [ho]
  simp only [hx, hy, hz, Instr.mapUpdate, Sem.run_bind, run_underlying (mapB_spec hm), Result.andThen_ok, get_map h.here, run_checkKey_int hu, run_findNow hu hf, set_map _ h.here, Sem.run_pure]
/-- What a map of whole numbers answers. -/
def mget : List (Int × Int) → Int → Int
  | [], _ => 0
  | (a, b) :: r, k => if k == a then b else mget r k
theorem mfind {kd ed : IntKind} (k : Int) : ∀ (l : List (Int × Int)) (q i : Nat), ∃ r, Instr.findNow (.int kd) (.int kd k) (mes kd ed l q) i = some r ∧ ((∃ j, r = some (j, .int ed (mget l k))) ∨ (r = none ∧ mget l k = 0))
  | [], _, _ => ⟨none, rfl, .inr ⟨rfl, rfl⟩⟩
  | (a, b) :: l, q, i => by
    unfold mes Instr.findNow
    simp only [Instr.sameNow, if_true]
    cases h : k == a with
    | true => exact ⟨_, rfl, .inl ⟨i, by unfold mget; rw [h]; rfl⟩⟩
    | false =>
      simp only
      obtain ⟨r, h1, h2⟩ := mfind k l (q + 1) (i + 1)
      exact ⟨r, h1, by unfold mget; rw [h]; exact h2⟩
theorem Y_lookup {g : Nat} {es : Array MapEntry} {cl : Nat} {kd ed : IntKind} {k : Int} {l : List (Int × Int)} (hw : w.heap[g]? = some (.map es cl)) (hes : es.toList = mes kd ed l 0) (hm : mapB P T kt et = true) (hk : intB P kt kd = true)
    (hze : (P.info? et).map (·.zero) = some (some (.int ed 0))) (ho : o.op = .lookup T x y false) (hx : ev n f x = .map (some g)) (hy : ev n f y = .int kd k) : Y P n f w o (.int ed (mget l k)) := by
  have hu := intB_spec hk
  unfold Y execOp; rw [ho]
  obtain ⟨r, h1, h2⟩ := mfind (kd := kd) (ed := ed) k l 0 0
  rw [← hes] at h1
  cases hi : P.info? et with
  | none => rw [hi] at hze; cases hze
  | some i =>
    rw [hi] at hze
    simp only [Option.map_some, Option.some.injEq] at hze
    rcases h2 with ⟨j, rfl⟩ | ⟨rfl, h0⟩
    · simp [hx, hy, Instr.lookup, Sem.run_bind, run_underlying (mapB_spec hm), Result.andThen_ok, get_map hw, run_checkKey_int hu, run_findNow hu h1, Sem.run_pure]
    · rw [h0]
      simp [hx, hy, Instr.lookup, Sem.run_bind, run_underlying (mapB_spec hm), Result.andThen_ok, get_map hw, run_checkKey_int hu, run_findNow hu h1, Sem.run_pure, zeroValue, typeInfo, hi, hze]
end
end Go.VK
