/- laws.FnOneForm returns true for all arguments, and leaves what it was handed as it was. No condition beyond the given statement. -/
import Derived.Test.YthmigddkloimaaaGreatDoorLOneFormOp
import Derived.Test.YthmigddkloimaaaGreatDoorRows
import Derived.Test.YthmigddkloimaaaGreatDoorLOneFormLaw
import Derived.Test.YthmigddkloimaaaGreatDoorLOneFormW4
import Derived.Test.YthmigddkloimaaaGreatDoorLibM
import Derived.Test.YthmigddkloimaaaGreatDoorCards
import Derived.Test.YthmigddkloimaaaGreatDoorTie
import Derived.SevenTiedAt
import Derived.Test.YthmigddkloimaaaGreatDoorLOneFormCa
import Derived.Test.YthmigddkloimaaaGreatDoorLOneFormCb
import Derived.Test.YthmigddkloimaaaGreatDoorLOneFormCc
import Derived.Test.YthmigddkloimaaaGreatDoorLOneFormCd
set_option linter.unusedVariables false
set_option maxRecDepth 100000
set_option maxHeartbeats 1000000
namespace Go.Proofs.YthmigddkloimaaaGreatDoor
open Go.ChangeShapes Go.WideShapes Go.ChangeAt Go.RowKit Go.VK
theorem own : ownKnob Tryz.prog.godebug = none := by kernel_rfl
theorem laidOut : laidOutB Tryz.prog = true := by kernel_rfl
theorem mapsRow : mapsRowed Tryz.prog = true := by kernel_rfl
theorem slicesFull : slicesFullB Tryz.prog = true := by kernel_rfl
theorem laid_cells0_0 {H : Type} {enc : TypeId × Value → H} {w : World} {base : Nat} {spare : Nat → Bool} {held : Bool} {n : Nat} {x : List Value} {p : List MemPlace} (h : DataW.trod enc Tryz.prog w base spare held n 46 x = some (.agg [.lit (.int .i64 1), .lit (.int .i64 0), .lit (.int .i64 0), .lit (.int .i64 0)], p)) : x = [.int .i64 1, .int .i64 0, .int .i64 0, .int .i64 0] := by
  have hl := rd_len K19 K5 h
  obtain ⟨n0, ⟨y0, p0⟩, e0, t0⟩ := rd_fldx K19 K2 h
  obtain rfl : (.lit (.int .i64 1) : DataW H) = y0 := Option.some.inj e0
  have c0 := rd_intx K23 t0
  obtain ⟨n1, ⟨y1, p1⟩, e1, t1⟩ := rd_fldx K20 K2 h
  obtain rfl : (.lit (.int .i64 0) : DataW H) = y1 := Option.some.inj e1
  have c1 := rd_intx K23 t1
  obtain ⟨n2, ⟨y2, p2⟩, e2, t2⟩ := rd_fldx K21 K2 h
  obtain rfl : (.lit (.int .i64 0) : DataW H) = y2 := Option.some.inj e2
  have c2 := rd_intx K23 t2
  obtain ⟨n3, ⟨y3, p3⟩, e3, t3⟩ := rd_fldx K22 K2 h
  obtain rfl : (.lit (.int .i64 0) : DataW H) = y3 := Option.some.inj e3
  have c3 := rd_intx K23 t3
  exact (seg_step (off := 0) c0 rfl (seg_step (off := 1) c1 rfl (seg_step (off := 2) c2 rfl (seg_step (off := 3) c3 rfl (seg_end hl)))))
theorem laid_cells0 {H : Type} {enc : TypeId × Value → H} {w : World} {base : Nat} {spare : Nat → Bool} {held : Bool} {n : Nat} {x : List Value} {p : List MemPlace} (h : DataW.trod enc Tryz.prog w base spare held n 48 x = some (.agg [.agg [.lit (.int .i64 1), .lit (.int .i64 0), .lit (.int .i64 0), .lit (.int .i64 0)], .lit (.int .i64 2)], p)) : x = [.int .i64 1, .int .i64 0, .int .i64 0, .int .i64 0, .int .i64 2] := by
  have hl := rd_len K45 K1 h
  obtain ⟨n0, ⟨y0, p0⟩, e0, t0⟩ := rd_fldx K45 K5 h
  obtain rfl : (.agg [.lit (.int .i64 1), .lit (.int .i64 0), .lit (.int .i64 0), .lit (.int .i64 0)] : DataW H) = y0 := Option.some.inj e0
  have c0 := laid_cells0_0 t0
  obtain ⟨n1, ⟨y1, p1⟩, e1, t1⟩ := rd_fldx K35 K2 h
  obtain rfl : (.lit (.int .i64 2) : DataW H) = y1 := Option.some.inj e1
  have c1 := rd_intx K23 t1
  exact (seg_step (off := 0) c0 rfl (seg_step (off := 4) c1 rfl (seg_end hl)))
noncomputable def laidWorld (os : Os) : World :=
  { World.holding Tryz.prog os ⟨#[], #[], []⟩ with heap := (World.holding Tryz.prog os ⟨#[], #[], []⟩).heap.modify 0 fun
      | .cells _ t frozen => .cells #[.int .i64 1, .int .i64 0, .int .i64 0, .int .i64 0, .int .i64 2] t frozen
      | o => o }
theorem laid_plain (w : World) : laidMetH Tryz.prog Rows.fnOneFormRow.laid w = laidMet Tryz.prog Rows.fnOneFormRow.laid w := MakeChecks.laidMetH_plain Tryz.prog Rows.fnOneFormRow.laid w (by rfl)
theorem laid_met (os : Os) (args : Array Value) : laidMetH Tryz.prog Rows.fnOneFormRow.laid ((laidWorld os).forCall (fun _ _ => 0) ⟨#[], args, []⟩).memory :=
  by rw [laid_plain]; exact laidMet_of_run (ps := [.cell 0 0, .cell 0 1, .cell 0 2, .cell 0 3, .cell 0 4]) 8 (by kernel_rfl) (by kernel_rfl) (by kernel_rfl)
theorem contract_FnOneForm (H : Type) (enc : TypeId × Value → H) (W : World) (base : Nat) (args : Array Value) (ds gs : List (DataW H)) (before : List MemPlace)
    (hval : ∀ (j : Nat) t v, Tryz.f3.params[j]? = some t → args[j]? = some v → Value.okWide Tryz.prog W .any base t v)
    (hW : DataW.Whole enc Tryz.prog Tryz.f3.params.toList Rows.fnOneFormSpec.vars false W args.toList ds gs before) (hL : laidMetH Tryz.prog Rows.fnOneFormRow.laid W) :
    Calls Tryz.prog 3 args W fun e W' => ∃ v, e = .returned v ∧ Rows.fnOneFormSpec.post enc Tryz.prog Tryz.f3 false true false false W args v W' := by
  rw [laid_plain] at hL
  have hW' := hW
  obtain ⟨p, q, hA, hV, rfl, hfz, hnd⟩ := hW
  have hA : DataW.TrodAll enc Tryz.prog W 0 (fun _ => true) true Tryz.f3.params.toList args.toList ds p := hA
  rw [Tryz.params3] at hA hval
  obtain ⟨v0, vs0, d0, ds0, p0, q0, ea0, ed0, ep0, h0, hA0⟩ := trodAll_cons hA
  obtain ⟨v1, vs1, d1, ds1, p1, q1, ea1, ed1, ep1, h1, hA1⟩ := trodAll_cons hA0
  obtain ⟨ev, edn, _⟩ := trodAll_nil hA1
  subst ev edn
  obtain rfl : args = #[v0, v1] := Array.toList_inj.mp (by rw [ea0, ea1])
  obtain rfl : ds = [d0, d1] := by rw [ed0, ed1]
  obtain ⟨_, _, _, _, g1, _, rfl, _⟩ := trodVars_one hV
  obtain ⟨n0, t0⟩ := h0
  obtain ⟨cs0, rfl, _⟩ := okWide_struct (Tryz.underlying23) (hval 0 23 v0 rfl rfl)
  obtain ⟨a0, e0, o0⟩ := rd_NormalForm t0
  obtain rfl := Array.toList_inj.mp (show cs0.toList = (List.toArray _).toList from e0)
  obtain ⟨n1, t1⟩ := h1
  obtain ⟨cs1, rfl, _⟩ := okWide_struct (Tryz.underlying23) (hval 1 23 v1 rfl rfl)
  obtain ⟨a1, e1, o1⟩ := rd_NormalForm t1
  obtain rfl := Array.toList_inj.mp (show cs1.toList = (List.toArray _).toList from e1)
  have hF := law_FnOneForm a0 a1 o0 o1
  refine Calls.mono (c_laws_FnOneForm a0 a1  W  (ST.refl (ro_cons (laid_cf (show laidMet Tryz.prog [("loop.example/g00864/impl.half", Rows.laid_loop_example_g00864_impl_half)] W from hL) (g := 0) (by kernel_rfl) (by kernel_rfl) (fun n x p h => laid_cells0 h)) (fun _ h => by cases h))) hF) (fun e W' ⟨v, he, hv, hST⟩ => ⟨v, he, ?_⟩)
  subst hv
  exact post_true_v (tb := 4) laidOut mapsRow slicesFull (by kernel_rfl) (by kernel_rfl) (by kernel_rfl) (by kernel_rfl) hW' rfl hST
theorem lifted_FnOneForm (os : Os) (started : os.Started) (H : Type) (enc : TypeId × Value → H) :
    ReturnsInHanded {} Tryz.checked os 3 .any (fun w args => (Rows.fnOneFormSpec.pre enc Tryz.prog Tryz.f3 [] false w args ∧ laidMetH Tryz.prog Rows.fnOneFormRow.laid w) ∧ sizedMet enc Tryz.prog Tryz.f3 (OpenSpec.ofChange Rows.fnOneFormSpec) false w args) (Rows.fnOneFormSpec.post enc Tryz.prog Tryz.f3 false true false false) := by
  refine returnsInHanded_of_change_and (C := Tryz.checked) (X := fun w _ => laidMetH Tryz.prog Rows.fnOneFormRow.laid w) (fun _ _ _ hh h => h.of_heap hh) own started (by kernel_rfl) Tryz.func3
    (ChangeSpec.witness_at (enc := enc) (C := Tryz.checked) (os := os) (X := fun w _ => laidMetH Tryz.prog Rows.fnOneFormRow.laid w) false (laidWorld os) #[.agg #[.string ⟨#[]⟩, .int .i64 0, .int .i64 0], .agg #[.string ⟨#[]⟩, .int .i64 0, .int .i64 0]] 8 rfl (by kernel_rfl) (by kernel_rfl) (by kernel_rfl) (by kernel_rfl) (by kernel_rfl) (laid_met os _)) ?_
  intro W base args ds gs before hval hW _ _ hL _
  exact contract_FnOneForm H enc W base args ds gs before hval hW hL
theorem closed_row : joinedFacts Tryz.prog 3 Tryz.f3 Rows.fnOneFormSpec Rows.fnOneFormRow = true := by
  unfold joinedFacts
  rw [laidOut, mapsRow, cl_inPlace, cl_unfollowed, cl_recurses, cl_named, cl_stopsHeard, cl_mayEnter, cl_lifted, cl_make]
  kernel_rfl
/-- 'laws.FnOneForm' returns true for all arguments, and leaves what it was handed as it was: where the listed variable holds what the program's text lays. -/
theorem row_FnOneForm : Rows.FnOneFormSaid :=
  OpenClaim.holds_of_wide 3 Tryz.f3 rfl rfl rfl rfl rfl rfl rfl ⟨rfl, rfl, rfl, rfl, rfl⟩ rfl rfl rfl rfl rfl (by kernel_rfl) Tryz.func3 closed_row
    (of_decide_eq_true (by kernel_rfl)) (by unfold Func.isWrapper; first | (rw [if_pos (by decide +kernel)]; kernel_rfl) | (rw [if_neg (by decide +kernel)]; exact ⟨rfl, rfl⟩))
    (fun os started H enc _ => lifted_FnOneForm os started H enc)
theorem stand_FnOneForm : (Tryz.f3.params.toList.all fun t => !(Tryz.prog.wantsStandIn t)) = true := by kernel_rfl
/-- The tied card. -/
theorem proved_FnOneForm : Rows.FnOneFormCardSaid :=
  Claim7.holds_tied_plain_at .later [] [.data] true (true, "7839ff98fb30eaeb7ff671900ac70d1f340fb581760d6f4f966743a9be55960e") false row_FnOneForm (fun _ h => by cases h) (by kernel_rfl) (fun _ h => by cases h) fnOneForm_row_tie rfl ⟨rfl, rfl⟩ (by kernel_rfl) rfl
    (fun f fn hf hfn => by
      obtain rfl : 3 = f := Option.some.inj ((show Tryz.prog.funcNamed "loop.example/g00864/laws.FnOneForm" = some 3 by kernel_rfl).symm.trans hf)
      obtain rfl : Tryz.f3 = fn := Option.some.inj (Tryz.func3.symm.trans hfn)
      exact ⟨by kernel_rfl, fun j t ht => by
        have := List.all_eq_true.1 stand_FnOneForm t (List.mem_of_getElem? (i := j) (by rw [Array.getElem?_toList]; exact ht))
        exact (show Tryz.prog.wantsStandIn t = false by simpa using this)⟩)
    (by kernel_rfl)
end Go.Proofs.YthmigddkloimaaaGreatDoor
