/- laws.FnExactRouteCircuit returns true for all arguments, and leaves what it was handed as it was. No condition beyond the given statement. -/
import Derived.Test.YtoladcammhboiaaRouteCircuitOp
import Derived.Test.YtoladcammhboiaaRows
import Derived.Test.YtoladcammhboiaaRouteCircuitLaw
import Derived.Test.YtoladcammhboiaaRouteCircuitW5
import Derived.Test.YtoladcammhboiaaRouteCircuitCa
import Derived.Test.YtoladcammhboiaaRouteCircuitCb
import Derived.Test.YtoladcammhboiaaRouteCircuitCc
import Derived.Test.YtoladcammhboiaaRouteCircuitCd
set_option linter.unusedVariables false
set_option maxRecDepth 100000
set_option maxHeartbeats 1000000
namespace Go.Proofs.Ytoladcammhboiaa
open Go.ChangeShapes Go.WideShapes Go.ChangeAt Go.RowKit Go.VK
theorem own : ownKnob Try.prog.godebug = none := by kernel_rfl
theorem laidOut : laidOutB Try.prog = true := by kernel_rfl
theorem mapsRow : mapsRowed Try.prog = true := by kernel_rfl
theorem slicesFull : slicesFullB Try.prog = true := by kernel_rfl
theorem contract_FnExactRouteCircuit (H : Type) (enc : TypeId × Value → H) (W : World) (base : Nat) (args : Array Value) (ds gs : List (DataW H)) (before : List MemPlace)
    (hval : ∀ (j : Nat) t v, Try.f10.params[j]? = some t → args[j]? = some v → Value.okWide Try.prog W .any base t v)
    (hW : DataW.Whole enc Try.prog Try.f10.params.toList Rows.fnExactRouteCircuitSpec.vars false W args.toList ds gs before) :
    Calls Try.prog 10 args W fun e W' => ∃ v, e = .returned v ∧ Rows.fnExactRouteCircuitSpec.post enc Try.prog Try.f10 false true false false W args v W' := by
  have hW' := hW
  obtain ⟨p, q, hA, hV, rfl, hfz, hnd⟩ := hW
  have hA : DataW.TrodAll enc Try.prog W 0 (fun _ => true) true Try.f10.params.toList args.toList ds p := hA
  rw [Try.params10] at hA hval
  obtain ⟨v0, vs0, d0, ds0, p0, q0, ea0, ed0, ep0, h0, hA0⟩ := trodAll_cons hA
  obtain ⟨v1, vs1, d1, ds1, p1, q1, ea1, ed1, ep1, h1, hA1⟩ := trodAll_cons hA0
  obtain ⟨v2, vs2, d2, ds2, p2, q2, ea2, ed2, ep2, h2, hA2⟩ := trodAll_cons hA1
  obtain ⟨ev, edn, _⟩ := trodAll_nil hA2
  subst ev edn
  obtain rfl : args = #[v0, v1, v2] := Array.toList_inj.mp (by rw [ea0, ea1, ea2])
  obtain rfl : ds = [d0, d1, d2] := by rw [ed0, ed1, ed2]
  obtain ⟨rfl, rfl⟩ := trodVars_none hV
  obtain ⟨n0, t0⟩ := h0
  obtain ⟨cs0, rfl, _⟩ := okWide_struct (Try.underlying86) (hval 0 86 v0 rfl rfl)
  obtain ⟨a0, B0_0, c0_0, e0, o0, r0_0⟩ := rd_CouplingGraph t0
  obtain rfl := Array.toList_inj.mp (show cs0.toList = (List.toArray _).toList from e0)
  obtain ⟨n1, t1⟩ := h1
  obtain ⟨cs1, rfl, _⟩ := okWide_struct (Try.underlying89) (hval 1 89 v1 rfl rfl)
  obtain ⟨a1, B1_0, c1_0, e1, o1, r1_0⟩ := rd_Circuit t1
  obtain rfl := Array.toList_inj.mp (show cs1.toList = (List.toArray _).toList from e1)
  obtain ⟨n2, t2⟩ := h2
  obtain ⟨cs2, rfl, _⟩ := okWide_struct (Try.underlying92) (hval 2 92 v2 rfl rfl)
  obtain ⟨a2, B2_0, c2_0, B2_1, c2_1, e2, o2, r2_0, r2_1⟩ := rd_Route t2
  obtain rfl := Array.toList_inj.mp (show cs2.toList = (List.toArray _).toList from e2)
  have hF := law_FnExactRouteCircuit a0 a1 a2 o0 o1 o2
  refine Calls.mono (c_laws_FnExactRouteCircuit a0 a1 a2 B0_0 c0_0 a0.Edges.length B1_0 c1_0 a1.Gates.length B2_0 c2_0 a2.Start.length B2_1 c2_1 a2.Steps.length W rfl rfl rfl rfl (ST.refl (ro_cons r0_0 (ro_cons r1_0 (ro_cons r2_0 (ro_cons r2_1 (fun _ h => by cases h)))))) hF) (fun e W' ⟨v, he, hv, hST⟩ => ⟨v, he, ?_⟩)
  subst hv
  exact post_true (tb := 4) laidOut mapsRow slicesFull (by kernel_rfl) (by kernel_rfl) (by kernel_rfl) hW' rfl rfl hST
theorem lifted_FnExactRouteCircuit (os : Os) (started : os.Started) (H : Type) (enc : TypeId × Value → H) :
    ReturnsInHanded {} Try.checked os 10 .any (Rows.fnExactRouteCircuitSpec.pre6 enc Try.prog Try.f10 Rows.fnExactRouteCircuitRow.domain false) (Rows.fnExactRouteCircuitSpec.post enc Try.prog Try.f10 false true false false) := by
  refine returnsInHanded_of_change (C := Try.checked) own started (by kernel_rfl) Try.func10
    (ChangeSpec.witness6 (enc := enc) (C := Try.checked) false ⟨#[], #[.agg #[.int .i64 0, .slice none 0 0], .agg #[.int .i64 0, .slice none 0 0], .agg #[.slice none 0 0, .slice none 0 0]], []⟩ 8 (by kernel_rfl) (by kernel_rfl) (by kernel_rfl) (by kernel_rfl)) ?_
  intro W base args ds gs before hval hW _ _
  exact contract_FnExactRouteCircuit H enc W base args ds gs before hval hW
theorem closed_row : joinedFacts Try.prog 10 Try.f10 Rows.fnExactRouteCircuitSpec Rows.fnExactRouteCircuitRow = true := by
  unfold joinedFacts
  rw [laidOut, mapsRow, cl_inPlace, cl_unfollowed, cl_recurses, cl_named, cl_stopsHeard, cl_mayEnter, cl_lifted, cl_make]
  kernel_rfl
/-- 'laws.FnExactRouteCircuit' returns true for all arguments, and leaves what it was handed as it was. No condition. -/
theorem proved_FnExactRouteCircuit : Rows.FnExactRouteCircuitSaid :=
  OpenClaim.holds_of_wide 10 Try.f10 rfl rfl rfl rfl rfl rfl rfl ⟨rfl, rfl, rfl, rfl, rfl⟩ rfl rfl rfl rfl rfl (by kernel_rfl) Try.func10 closed_row
    (of_decide_eq_true (by kernel_rfl)) (by unfold Func.isWrapper; first | (rw [if_pos (by decide +kernel)]; kernel_rfl) | (rw [if_neg (by decide +kernel)]; exact ⟨rfl, rfl⟩))
    (fun os started H enc _ => lifted_FnExactRouteCircuit os started H enc)
end Go.Proofs.Ytoladcammhboiaa
