/- laws.FnExactEqualPhases returns true for all arguments, and leaves what it was handed as it was. No condition beyond the given statement. -/
import Derived.Test.YthfilimbhhijaaaEqualPhasesOp
import Derived.Test.YthfilimbhhijaaaRows
import Derived.Test.YthfilimbhhijaaaEqualPhasesLaw
import Derived.Test.YthfilimbhhijaaaEqualPhasesW3
import Derived.Test.YthfilimbhhijaaaEqualPhasesCa
import Derived.Test.YthfilimbhhijaaaEqualPhasesCb
import Derived.Test.YthfilimbhhijaaaEqualPhasesCc
import Derived.Test.YthfilimbhhijaaaEqualPhasesCd
set_option linter.unusedVariables false
set_option maxRecDepth 100000
set_option maxHeartbeats 1000000
namespace Go.Proofs.Ythfilimbhhijaaa
open Go.ChangeShapes Go.WideShapes Go.ChangeAt Go.RowKit Go.VK
theorem own : ownKnob Try.prog.godebug = none := by kernel_rfl
theorem laidOut : laidOutB Try.prog = true := by kernel_rfl
theorem mapsRow : mapsRowed Try.prog = true := by kernel_rfl
theorem slicesFull : slicesFullB Try.prog = true := by kernel_rfl
theorem contract_FnExactEqualPhases (H : Type) (enc : TypeId × Value → H) (W : World) (base : Nat) (args : Array Value) (ds gs : List (DataW H)) (before : List MemPlace)
    (hval : ∀ (j : Nat) t v, Try.f5.params[j]? = some t → args[j]? = some v → Value.okWide Try.prog W .any base t v)
    (hW : DataW.Whole enc Try.prog Try.f5.params.toList Rows.fnExactEqualPhasesSpec.vars false W args.toList ds gs before) :
    Calls Try.prog 5 args W fun e W' => ∃ v, e = .returned v ∧ Rows.fnExactEqualPhasesSpec.post enc Try.prog Try.f5 false true false false W args v W' := by
  have hW' := hW
  obtain ⟨p, q, hA, hV, rfl, hfz, hnd⟩ := hW
  have hA : DataW.TrodAll enc Try.prog W 0 (fun _ => true) true Try.f5.params.toList args.toList ds p := hA
  rw [Try.params5] at hA hval
  obtain ⟨v0, vs0, d0, ds0, p0, q0, ea0, ed0, ep0, h0, hA0⟩ := trodAll_cons hA
  obtain ⟨v1, vs1, d1, ds1, p1, q1, ea1, ed1, ep1, h1, hA1⟩ := trodAll_cons hA0
  obtain ⟨ev, edn, _⟩ := trodAll_nil hA1
  subst ev edn
  obtain rfl : args = #[v0, v1] := Array.toList_inj.mp (by rw [ea0, ea1])
  obtain rfl : ds = [d0, d1] := by rw [ed0, ed1]
  obtain ⟨rfl, rfl⟩ := trodVars_none hV
  obtain ⟨n0, t0⟩ := h0
  obtain ⟨cs0, rfl, _⟩ := okWide_struct (Try.underlying38) (hval 0 38 v0 rfl rfl)
  obtain ⟨a0, B0_0, c0_0, B0_1, c0_1, e0, o0, r0_0, r0_1⟩ := rd_PhasePoly t0
  obtain rfl := Array.toList_inj.mp (show cs0.toList = (List.toArray _).toList from e0)
  obtain ⟨n1, t1⟩ := h1
  obtain ⟨cs1, rfl, _⟩ := okWide_struct (Try.underlying38) (hval 1 38 v1 rfl rfl)
  obtain ⟨a1, B1_0, c1_0, B1_1, c1_1, e1, o1, r1_0, r1_1⟩ := rd_PhasePoly t1
  obtain rfl := Array.toList_inj.mp (show cs1.toList = (List.toArray _).toList from e1)
  have hF := law_FnExactEqualPhases a0 a1 o0 o1
  refine Calls.mono (c_laws_FnExactEqualPhases a0 a1 B0_0 c0_0 a0.Terms.length B0_1 c0_1 a0.Out.Rows.length B1_0 c1_0 a1.Terms.length B1_1 c1_1 a1.Out.Rows.length W rfl rfl rfl rfl (ST.refl (ro_cons r0_0 (ro_cons r0_1 (ro_cons r1_0 (ro_cons r1_1 (fun _ h => by cases h)))))) hF) (fun e W' ⟨v, he, hv, hST⟩ => ⟨v, he, ?_⟩)
  subst hv
  exact post_true (tb := 4) laidOut mapsRow slicesFull (by kernel_rfl) (by kernel_rfl) (by kernel_rfl) hW' rfl rfl hST
theorem lifted_FnExactEqualPhases (os : Os) (started : os.Started) (H : Type) (enc : TypeId × Value → H) :
    ReturnsInHanded {} Try.checked os 5 .any (Rows.fnExactEqualPhasesSpec.pre6 enc Try.prog Try.f5 Rows.fnExactEqualPhasesRow.domain false) (Rows.fnExactEqualPhasesSpec.post enc Try.prog Try.f5 false true false false) := by
  refine returnsInHanded_of_change (C := Try.checked) own started (by kernel_rfl) Try.func5
    (ChangeSpec.witness6 (enc := enc) (C := Try.checked) false ⟨#[], #[.agg #[.int .i64 0, .int .i64 0, .slice none 0 0, .slice none 0 0], .agg #[.int .i64 0, .int .i64 0, .slice none 0 0, .slice none 0 0]], []⟩ 8 (by kernel_rfl) (by kernel_rfl) (by kernel_rfl) (by kernel_rfl)) ?_
  intro W base args ds gs before hval hW _ _
  exact contract_FnExactEqualPhases H enc W base args ds gs before hval hW
theorem closed_row : joinedFacts Try.prog 5 Try.f5 Rows.fnExactEqualPhasesSpec Rows.fnExactEqualPhasesRow = true := by
  unfold joinedFacts
  rw [laidOut, mapsRow, cl_inPlace, cl_unfollowed, cl_recurses, cl_named, cl_stopsHeard, cl_mayEnter, cl_lifted, cl_make]
  kernel_rfl
/-- 'laws.FnExactEqualPhases' returns true for all arguments, and leaves what it was handed as it was. No condition. -/
theorem proved_FnExactEqualPhases : Rows.FnExactEqualPhasesSaid :=
  OpenClaim.holds_of_wide 5 Try.f5 rfl rfl rfl rfl rfl rfl rfl ⟨rfl, rfl, rfl, rfl, rfl⟩ rfl rfl rfl rfl rfl (by kernel_rfl) Try.func5 closed_row
    (of_decide_eq_true (by kernel_rfl)) (by unfold Func.isWrapper; first | (rw [if_pos (by decide +kernel)]; kernel_rfl) | (rw [if_neg (by decide +kernel)]; exact ⟨rfl, rfl⟩))
    (fun os started H enc _ => lifted_FnExactEqualPhases os started H enc)
end Go.Proofs.Ythfilimbhhijaaa
